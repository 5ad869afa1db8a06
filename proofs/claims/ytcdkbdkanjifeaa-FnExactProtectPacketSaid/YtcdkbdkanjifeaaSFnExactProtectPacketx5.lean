/- The walk of functions that the law FnExactProtectPacket uses, written by program. -/
import Derived.Test.YtcdkbdkanjifeaaSFnExactProtectPacketx0
import Derived.Test.YtcdkbdkanjifeaaSFnExactProtectPacketx2
import Derived.Test.YtcdkbdkanjifeaaSFnExactProtectPacketx3
import Derived.Test.YtcdkbdkanjifeaaSFnExactProtectPacketx4
import Derived.Test.YtcdkbdkanjifeaaSteps2
import Derived.Test.YtcdkbdkanjifeaaSteps3
namespace Go.Proofs.Ytcdkbdkanjifeaa.SFnExactProtectPacket
open Go.Proofs.Ytcdkbdkanjifeaa.Steps3 Go.Proofs.Ytcdkbdkanjifeaa.Steps2 Go.RowKit Go.Proofs.YtcdkbdkanjifeaaW.PrintWords Go.Proofs.YtcdkbdkanjifeaaW.PrintLast Go.Proofs.YtcdkbdkanjifeaaW.PrintMore
open Go.Proofs.YtcdkbdkanjifeaaW.PrintWords renaming below_size → qs, below_step → qt, blk_cell → qu, blk_below → qv
open Go.Proofs.YtcdkbdkanjifeaaW.PrintWords.Kd renaming R_alloc → qb, R_drewN → qc, R_drew → qd, R_reads' → qe, R_mono → qg
open Go.Proofs.YtcdkbdkanjifeaaW.PrintWords.Aside0 renaming mk → qm
attribute [local go_sem] max2_int min2_int max_two min_two max_three min_three max_four min_four 
set_option linter.unusedVariables false
set_option linter.unusedSimpArgs false
def spec_l03Tag.f (k:Nat) (l0_0:List Int) (l0_1:List Int) (l0_2:List Int) (l0_3:List Int) (l1:List Int) (l2:List Int) (l3:List Int):Option (List Int):=(spec_l03Cat.f l1 (([255,255,255,255]:List Int))).bind fun t298=>((spec_l01Digits.f k (l2.length:Int) 4).bind fun t301=>(if t298.length+t301.length<140737488355328 then ((some (t298 ++ t301:List Int)).bind fun y304=>(if y304.length+l2.length<140737488355328 then ((some (y304 ++ l2:List Int)).bind fun y307=>(if y307.length+l3.length<140737488355328 then ((spec_l03Digest.f k l0_1 (y307 ++ l3)).bind fun t313=>(if 8≤(t313.length:Int) then (some (t313.take (8:Int).toNat)) else (none))) else (none))) else (none))) else (none)))
def spec_l03Tag.T4:Bool×List (List Nat×List Nat):=(true,[([],[]),([0],[0]),([],[]),([],[]),([2,3],[2,3]),([1,4,4],[1,4]),([5],[5]),([6,5,0,1,2,3,4,5,6],[6])])
def spec_l03Tag.B4:List Nat:=[0,1,0,0,12,31,63,127]
theorem spec_l03Tag.tab4:rtab .any (opsOf Try.f66 4)=spec_l03Tag.T4:=by kernel_rfl
theorem spec_l03Tag.bits4:waitsOk spec_l03Tag.T4.2 spec_l03Tag.B4=true:=by kernel_rfl
set_option maxHeartbeats 8000000 in
set_option maxRecDepth 100000 in
theorem spec_l03Tag.calls (k:Nat) (A0_0:Option Addr) (c0_0:Nat) (l0_0:List Int) (A0_1:Option Addr) (c0_1:Nat) (l0_1:List Int) (A0_2:Option Addr) (c0_2:Nat) (l0_2:List Int) (A0_3:Option Addr) (c0_3:Nat) (l0_3:List Int) (A1:Option Addr) (c1:Nat) (l1:List Int) (A2:Option Addr) (c2:Nat) (l2:List Int) (A3:Option Addr) (c3:Nat) (l3:List Int) (r:List Int) (w:World) (hr0_0:Kd.C (Kd.int .u8) w A0_0 l0_0.length l0_0) (hc0_0:l0_0.length≤c0_0) (hr0_1:Kd.C (Kd.int .u8) w A0_1 l0_1.length l0_1) (hc0_1:l0_1.length≤c0_1) (hr0_2:Kd.C (Kd.int .u8) w A0_2 l0_2.length l0_2) (hc0_2:l0_2.length≤c0_2) (hr0_3:Kd.C (Kd.int .u8) w A0_3 l0_3.length l0_3) (hc0_3:l0_3.length≤c0_3) (hr1:Kd.C (Kd.int .u8) w A1 l1.length l1) (hc1:l1.length≤c1) (hr2:Kd.C (Kd.int .u8) w A2 l2.length l2) (hc2:l2.length≤c2) (hr3:Kd.C (Kd.int .u8) w A3 l3.length l3) (hc3:l3.length≤c3) (h:spec_l03Tag.f k l0_0 l0_1 l0_2 l0_3 l1 l2 l3=some r) :
  Calls Try.prog 66 #[.agg #[.slice A0_0 l0_0.length c0_0, .slice A0_1 l0_1.length c0_1, .slice A0_2 l0_2.length c0_2, .slice A0_3 l0_3.length c0_3], .slice A1 l1.length c1, .slice A2 l2.length c2, .slice A3 l3.length c3] w fun e w' =>∃ v0_:Value,e = .returned (v0_)∧Kd.R (Kd.int .u8) 5 w' w.heap.size (fun _=>True) v0_ r∧Below w.heap.size w w' :=by
 have hu33:=Try.underlying33
 have HR0_0:=qm hr0_0
 have HC0_0:=qm hc0_0
 clear hr0_0 hc0_0
 have HR0_1:=qm hr0_1
 have HC0_1:=qm hc0_1
 clear hr0_1 hc0_1
 have HR0_2:=qm hr0_2
 have HC0_2:=qm hc0_2
 clear hr0_2 hc0_2
 have HR0_3:=qm hr0_3
 have HC0_3:=qm hc0_3
 clear hr0_3 hc0_3
 have HR1:=qm hr1
 have HC1:=qm hc1
 clear hr1 hc1
 have HR2:=qm hr2
 have HC2:=qm hc2
 clear hr2 hc2
 have HR3:=qm hr3
 have HC3:=qm hc3
 clear hr3 hc3
 have HB:=qm (Below.refl w.heap.size w)
 have H:((spec_l03Cat.f l1 (([255,255,255,255]:List Int))).bind fun t298=>((spec_l01Digits.f k (l2.length:Int) 4).bind fun t301=>(if t298.length+t301.length<140737488355328 then ((some (t298 ++ t301:List Int)).bind fun y304=>(if y304.length+l2.length<140737488355328 then ((some (y304 ++ l2:List Int)).bind fun y307=>(if y307.length+l3.length<140737488355328 then ((spec_l03Digest.f k l0_1 (y307 ++ l3)).bind fun t313=>(if 8≤(t313.length:Int) then (some (t313.take (8:Int).toNat)) else (none))) else (none))) else (none))) else (none))))=some r:=h
 clear h
 obtain ⟨y295,hy295⟩:∃ y_:List Int,y_=(([255,255,255,255]:List Int)):=⟨_,rfl⟩
 replace H:((spec_l03Cat.f l1 y295).bind fun t298=>((spec_l01Digits.f k (l2.length:Int) 4).bind fun t301=>(if t298.length+t301.length<140737488355328 then ((some (t298 ++ t301:List Int)).bind fun y304=>(if y304.length+l2.length<140737488355328 then ((some (y304 ++ l2:List Int)).bind fun y307=>(if y307.length+l3.length<140737488355328 then ((spec_l03Digest.f k l0_1 (y307 ++ l3)).bind fun t313=>(if 8≤(t313.length:Int) then (some (t313.take (8:Int).toNat)) else (none))) else (none))) else (none))) else (none))))=some r:=by first|(rw [hy295];with_reducible exact H)|(have H2_:=(Option.bind_some _ _).symm.trans H;rw [hy295];with_reducible exact H2_)|(have H2_:=(Option.bind_some _ _).symm.trans H;with_reducible exact H2_)|with_reducible exact H|(rw [hy295];exact H)|exact H
 have Ny295:=qm hy295
 clear hy295
 replace H:=Option.bind_eq_some_iff.mp H
 obtain ⟨t298,A50,H⟩:=H
 try dsimp only at H
 have A5:=qm A50
 clear A50
 replace H:=Option.bind_eq_some_iff.mp H
 obtain ⟨t301,A60,H⟩:=H
 try dsimp only at H
 have A6:=qm A60
 clear A60
 by_cases c7:t298.length+t301.length<140737488355328
 ·rw [if_pos c7] at H
  have LMc7:=qm c7
  clear c7
  obtain ⟨y304,hy304⟩:∃ y_:List Int,y_=(t298 ++ t301):=⟨_,rfl⟩
  replace H:(if y304.length+l2.length<140737488355328 then ((some (y304 ++ l2:List Int)).bind fun y307=>(if y307.length+l3.length<140737488355328 then ((spec_l03Digest.f k l0_1 (y307 ++ l3)).bind fun t313=>(if 8≤(t313.length:Int) then (some (t313.take (8:Int).toNat)) else (none))) else (none))) else (none))=some r:=by first|(rw [hy304];with_reducible exact H)|(have H2_:=(Option.bind_some _ _).symm.trans H;rw [hy304];with_reducible exact H2_)|(have H2_:=(Option.bind_some _ _).symm.trans H;with_reducible exact H2_)|with_reducible exact H|(rw [hy304];exact H)|exact H
  have Ny304:=qm hy304
  clear hy304
  by_cases c8:y304.length+l2.length<140737488355328
  ·rw [if_pos c8] at H
   have LMc8:=qm c8
   clear c8
   obtain ⟨y307,hy307⟩:∃ y_:List Int,y_=(y304 ++ l2):=⟨_,rfl⟩
   replace H:(if y307.length+l3.length<140737488355328 then ((spec_l03Digest.f k l0_1 (y307 ++ l3)).bind fun t313=>(if 8≤(t313.length:Int) then (some (t313.take (8:Int).toNat)) else (none))) else (none))=some r:=by first|(rw [hy307];with_reducible exact H)|(have H2_:=(Option.bind_some _ _).symm.trans H;rw [hy307];with_reducible exact H2_)|(have H2_:=(Option.bind_some _ _).symm.trans H;with_reducible exact H2_)|with_reducible exact H|(rw [hy307];exact H)|exact H
   have Ny307:=qm hy307
   clear hy307
   by_cases c9:y307.length+l3.length<140737488355328
   ·rw [if_pos c9] at H
    have LMc9:=qm c9
    clear c9
    obtain ⟨y310,hy310⟩:∃ y_:List Int,y_=(y307 ++ l3):=⟨_,rfl⟩
    replace H:((spec_l03Digest.f k l0_1 y310).bind fun t313=>(if 8≤(t313.length:Int) then (some (t313.take (8:Int).toNat)) else (none)))=some r:=by first|(rw [hy310];with_reducible exact H)|(have H2_:=(Option.bind_some _ _).symm.trans H;rw [hy310];with_reducible exact H2_)|(have H2_:=(Option.bind_some _ _).symm.trans H;with_reducible exact H2_)|with_reducible exact H|(rw [hy310];exact H)|exact H
    have Ny310:=qm hy310
    clear hy310
    replace H:=Option.bind_eq_some_iff.mp H
    obtain ⟨t313,A100,H⟩:=H
    try dsimp only at H
    have A10:=qm A100
    clear A100
    by_cases c11:8≤(t313.length:Int)
    ·rw [if_pos c11] at H
     have c11b0:=eq_true c11
     have c11b1:decide (8≤(t313.length:Int))=true:=decide_eq_true c11
     clear c11
     obtain ⟨y316,hy316⟩:∃ y_:List Int,y_=(t313.take (8:Int).toNat):=⟨_,rfl⟩
     replace H:(some y316)=some r:=by first|(rw [hy316];with_reducible exact H)|(have H2_:=(Option.bind_some _ _).symm.trans H;rw [hy316];with_reducible exact H2_)|(have H2_:=(Option.bind_some _ _).symm.trans H;with_reducible exact H2_)|with_reducible exact H|(rw [hy316];exact H)|exact H
     have Ny316:=qm hy316
     clear hy316
     obtain rfl:=Option.some.inj H
     go_enter Try.func66,Try.ntmps66
     try go_wp2_with (first|((with_reducible refine gate_dst (N:=4) rfl ?_);refine box_event (by rfl) (N:=4) (by rfl) (cs:=#[.slice A0_0 l0_0.length c0_0, .slice A0_1 l0_1.length c0_1, .slice A0_2 l0_2.length c0_2, .slice A0_3 l0_3.length c0_3]) (t:=33) (by first|(go_simp;done)|(go_simp;rfl)) ?_;intro gb294 hg w12 hbox hb;have _:=qm (qt HB.out hb);have _:=qm (hbox);have _:=qm ((gs hg (qs HB.out)));have _:=qm ((gs hg (qs HB.out)));clear HB;rename_i HB BK294 GW294 GE294;clear hb hbox hg)|((with_reducible refine gate_dst (N:=11) rfl ?_);refine Kd.R_lit (Kd.int .u8) _ 5 ?hg (N:=11) ?hd (xs:=([255,255,255,255]:List Int)) (inner:=[.int .u8 255, .int .u8 255, .int .u8 255, .int .u8 255]) (ok:=fun _=>True) (okp:=fun _=>True) ?hr ?hp (fun _ hk=>hk) trivial (Below.refl _ _) (Nat.le_refl _) (by simp) ?_;(case hd=>rfl);(case hg=>rfl);(case hr=>first|(go_simp;done)|(go_simp;rfl));(case hp=>exact (Reps.one (show Kd.M (Kd.int .u8) _ _ _ 255 [.int .u8 255] from rfl) (Reps.one (show Kd.M (Kd.int .u8) _ _ _ 255 [.int .u8 255] from rfl) (Reps.one (show Kd.M (Kd.int .u8) _ _ _ 255 [.int .u8 255] from rfl) (Reps.one (show Kd.M (Kd.int .u8) _ _ _ 255 [.int .u8 255] from rfl) (Reps.none _ _))))));intro v296 w13 ho14 hb hg_ hnew_;clear hg_ hnew_;(first|rw [←Ny295.out] at ho14|(simp only [Int.reduceToNat] at ho14;rw [←Ny295.out] at ho14));have _:=qm (Kd.R_lower ho14 (qs HB.out));have _:=qm (qv (g:=gb294) BK294.out hb);have _:=qm (qt HB.out hb);clear BK294 HB;rename_i HO297 BK294 HB;clear hb ho14;obtain ⟨Ao15,co15,eo15⟩:=Kd.R_slice HO297.out;subst eo15)|((with_reducible refine gate_callee (f:=81) rfl ?_);refine goesL_ (some 12) rfl rfl Try.func81 (by kernel_rfl) rfl #[.slice A1 l1.length c1, .slice Ao15 y295.length co15] rfl (by (try simp only [m1,m2,m3]);first|done|rfl) ?_;(with_reducible refine (spec_l03Cat.calls _ _ l1 _ _ y295 t298 _ ?side1 ?side2 ?side3 ?side4 A5.out).mono ?_);(case side1=>exact cb (Kd.C_below HR1.out HB.out));(case side2=>exact HC1.out);(case side3=>exact cb ((qe HO297.out).2.2));(case side4=>exact (qe HO297.out).2.1);rintro e w16 ⟨v299,rfl,ho0,hb⟩;refine ⟨_,rfl,?_⟩;have _:=qm (Kd.R_elder' HO297.out (Kd.R_base ho0) hb);have _:=qm (Kd.R_lower (nw ho0 HO297.out) (qs HB.out));have _:=qm (qv (g:=gb294) BK294.out hb);have _:=qm (qt HB.out hb);clear HO297 BK294 HB;rename_i HO297 HO300 BK294 HB)|((with_reducible refine gate_callee (f:=64) rfl ?_);refine goesL_ (some 16) rfl rfl Try.func64 (by kernel_rfl) rfl #[.int .i64 (l2.length:Int), .int .i64 4] rfl (by (try simp only [m1,m2,m3]);first|done|rfl) ?_;(with_reducible refine (spec_l01Digits.calls k (l2.length:Int) 4 t301 _ A6.out).mono ?_);rintro e w17 ⟨v302,rfl,ho0,hb⟩;refine ⟨_,rfl,?_⟩;have _:=qm (Kd.R_elder' HO297.out (Kd.R_base ho0) hb);have _:=qm (Kd.R_elder' HO300.out (Kd.R_base ho0) hb);have _:=qm (Kd.R_lower (nw (nw ho0 HO297.out) HO300.out) (qs HB.out));have _:=qm (qv (g:=gb294) BK294.out hb);have _:=qm (qt HB.out hb);clear HO297 HO300 BK294 HB;rename_i HO297 HO300 HO303 BK294 HB;obtain ⟨Ao19,co19,eo19⟩:=Kd.R_slice HO303.out;subst eo19)|((with_reducible refine gate_builtin (b:= .append) (xs:=#[.tmp 13, .tmp 16]) rfl ?_);at_builtin;refine Kd.R_append_rows (Kd.int .u8) (w0:=w) w.heap.size rfl (.tmp 13) (.tmp 16) 22 5 (.int .u8 0) 1 rfl Try.underlying22 info5 rfl (by decide) (by omega) v299 t298 t301 _ _ _ (fun k_=>ob k_ (.slice Ao15 y295.length co15)∧ob k_ (.slice Ao19 t301.length co19)) (fun _=>False) rfl rfl ?aO ?aR (fun _ _ h=>h) (fun _ h=>h.elim) ?aF ?aB ?aS ?aL ?_;(case aR=>exact cb ((qe HO303.out).2.2));(case aB=>exact HB.out);(case aF=>exact (fun k_ hk=>⟨Kd.fresh' (Kd.R_lt HO297.out) k_ hk,Kd.fresh' (Kd.R_lt HO303.out) k_ hk⟩));(case aO=>exact (rb (qg HO300.out (fun _ hk=>⟨hk.1.2,hk.2⟩))));(case aS=>exact (qs HB.out));(case aL=>have:=LMc7.out;omega);intro v305 w18 ho hb hg hat;rw [←Ny304.out] at ho;have _:=qm (blk_grown (g:=gb294) BK294.out hg (Kd.R_ne HO300.out BK294.out (by decide)));have _:=qm (Kd.R_after (ok:=(fun k_=>ob k_ (.slice Ao19 t301.length co19))) (rb (qg HO297.out (fun _ hk=>⟨hk.2,hk.1.2⟩))) hg hat);have _:=qm (Kd.R_after (ok:=(fun k_=>ob k_ (.slice Ao15 y295.length co15))) (rb (qg HO303.out (fun _ hk=>⟨hk.1.2,hk.2⟩))) hg hat);have _:=qm (hb);have _:=qm (ho);clear BK294 HO297 HO303 HB HO300;rename_i BK294 HO297 HO303 HB HO306;clear ho hb hg hat)|((with_reducible refine gate_builtin (b:= .append) (xs:=#[.tmp 18, .tmp 19]) rfl ?_);at_builtin;refine Kd.R_append_rows (Kd.int .u8) (w0:=w) w.heap.size rfl (.tmp 18) (.tmp 19) 22 5 (.int .u8 0) 1 rfl Try.underlying22 info5 rfl (by decide) (by omega) v305 y304 l2 _ _ _ (fun k_=>ob k_ (.slice Ao15 y295.length co15)∧ob k_ (.slice Ao19 t301.length co19)) (fun _=>False) rfl rfl ?aO ?aR (fun _ _ h=>h) (fun _ h=>h.elim) ?aF ?aB ?aS ?aL ?_;(case aR=>exact cb (Kd.C_below HR2.out HB.out));(case aB=>exact HB.out);(case aF=>exact (fun k_ hk=>⟨Kd.fresh' (Kd.R_lt HO297.out) k_ hk,Kd.fresh' (Kd.R_lt HO303.out) k_ hk⟩));(case aO=>exact HO306.out);(case aS=>exact (qs HB.out));(case aL=>have:=LMc8.out;omega);intro v308 w20 ho hb hg hat;rw [←Ny307.out] at ho;have _:=qm (blk_grown (g:=gb294) BK294.out hg (Kd.R_ne HO306.out BK294.out (by decide)));have _:=qm (Kd.R_after (ok:=(fun k_=>ob k_ (.slice Ao19 t301.length co19))) HO297.out hg hat);have _:=qm (Kd.R_after (ok:=(fun k_=>ob k_ (.slice Ao15 y295.length co15))) HO303.out hg hat);have _:=qm (hb);have _:=qm (ho);clear BK294 HO297 HO303 HB HO306;rename_i BK294 HO297 HO303 HB HO309;clear ho hb hg hat))
     have _:=qm (qd HO297.out)
     have _:=qm (qd HO303.out)
     have _:=qm (qd HO309.out)
     have _:=qm (blk_drew BK294.out)
     have _:=qm (below_drew1 HB.out)
     clear HO297 HO303 HO309 BK294 HB
     rename_i HO297 HO303 HO309 BK294 HB
     refine start_ (n:=8) (S:=fun w' =>w'.cell? ⟨gb294,0,none⟩=some (.slice A0_0 l0_0.length c0_0)∧w'.cell? ⟨gb294,1,none⟩=some (.slice A0_1 l0_1.length c0_1)∧w'.cell? ⟨gb294,2,none⟩=some (.slice A0_2 l0_2.length c0_2)∧w'.cell? ⟨gb294,3,none⟩=some (.slice A0_3 l0_3.length c0_3)) (ds:=[]) (bm 0 8) (by kernel_rfl) rfl rfl ⟨(qu BK294.out 0).trans rfl,(qu BK294.out 1).trans rfl,(qu BK294.out 2).trans rfl,(qu BK294.out 3).trans rfl⟩ (fun hHeld=>?_);refine with_tabW spec_l03Tag.tab4 spec_l03Tag.bits4 (fun HT_ HW_=>?_)
     generalize w20.drew=w21 at HO297 HO303 HO309 BK294 HB hHeld ⊢
     refine pu 0 21 (bm 1 8) HT_ (h:=⟨_,by intro w';go_simp;with_reducible rfl,_,by simp only [Act.put,s1,s2,s3,i64_w,i32_w];rfl,?_⟩)
     refine pu 2 23 (bb 5 8) HT_ (h:=⟨_,by intro w';go_simp;with_reducible rfl,_,by simp only [Act.put,s1,s2,s3,i64_w,i32_w];rfl,?_⟩)
     refine pu 3 24 (bb 13 8) HT_ (h:=⟨_,by intro w';go_simp;with_reducible rfl,_,by simp only [Act.put,s1,s2,s3,i64_w,i32_w];rfl,?_⟩)
     refine tk 1 22 (bm 4 8) HT_ HW_ (hS:=hHeld) (h:=⟨_,by rintro w' ⟨s0,s1,s2,s3⟩;go_simp;with_reducible rfl,_,by simp only [Act.put,s1,s2,s3,i64_w,i32_w];rfl,?_⟩)
     refine one_ (i:=4) (N:=some 25) (bm 5 8) rfl rfl (one_of HT_.out (by kernel_rfl)) (by decide) (fun K hK=>?_)
     refine Kd.R_append_rows_step (Kd.int .u8) (w0:=w) w.heap.size (by rfl) (.tmp 23) (.tmp 24) 22 5 (.int .u8 0) 1 rfl Try.underlying22 info5 rfl (by decide) (by omega) v308 y307 l3 _ _ _ (fun k_=>ob k_ (.slice Ao15 y295.length co15)∧ob k_ (.slice Ao19 t301.length co19)) (fun _=>False) rfl rfl ?aO ?aR (fun _ _ h=>h) (fun _ h=>h.elim) ?aF ?aB ?aS ?aL ?_
     (case aR=>exact cb (Kd.C_below HR3.out HB.out))
     (case aB=>exact HB.out)
     (case aF=>exact (fun k_ hk=>⟨Kd.fresh' (Kd.R_lt HO297.out) k_ hk,Kd.fresh' (Kd.R_lt HO303.out) k_ hk⟩))
     (case aO=>exact HO309.out)
     (case aS=>exact (qs HB.out))
     (case aL=>have:=LMc9.out;omega)
     intro v311 w22 ho hb hg hat
     rw [←Ny310.out] at ho
     have _:=qm (blk_grown (g:=gb294) BK294.out hg (Kd.R_ne HO309.out BK294.out (by decide)))
     have _:=qm (Kd.R_after (ok:=(fun k_=>ob k_ (.slice Ao19 t301.length co19))) HO297.out hg hat)
     have _:=qm (Kd.R_after (ok:=(fun k_=>ob k_ (.slice Ao15 y295.length co15))) HO303.out hg hat)
     have _:=qm (hb)
     have _:=qm (ho)
     clear BK294 HO297 HO303 HB HO309
     rename_i BK294 HO297 HO303 HB HO312
     clear ho hb hg hat
     obtain ⟨Ao23,co23,eo23⟩:=Kd.R_slice HO312.out
     (first|subst eo23|(injection eo23 with f1_ f2_ f3_;have f4_:=f1_.symm;have f5_:=f3_.symm;clear f1_ f2_ f3_;subst f4_;subst f5_))
     refine hK.out _ _ ⟨(qu BK294.out 0).trans rfl,(qu BK294.out 1).trans rfl,(qu BK294.out 2).trans rfl,(qu BK294.out 3).trans rfl⟩ (fun hHeld=>?_)
     clear hK K
     refine norm_ (a' :=?_) ?_ ?_
     rotate_left
     ·show Act.put _ (some 25) _=_
      simp only [Act.put,s1,s2,s3,i64_w,i32_w]
      rfl
     refine one_ (i:=5) (N:=some 26) (bm 6 8) rfl rfl (one_of HT_.out (by kernel_rfl)) (by decide) (fun K hK=>?_)
     refine goes_ Try.func49 (by kernel_rfl) rfl #[.slice A0_1 l0_1.length c0_1, .slice Ao23 y310.length co23] (by rfl) rfl rfl (by (try simp only [m1,m2,m3]);first|done|rfl) ?_
     with_reducible refine (spec_l03Digest.calls k _ _ l0_1 _ _ y310 t313 _ ?side1 ?side2 ?side3 ?side4 A10.out).mono ?_
     (case side1=>exact cb (Kd.C_below HR0_1.out HB.out))
     (case side2=>exact HC0_1.out)
     (case side3=>exact cb ((qe HO312.out).2.2))
     (case side4=>exact (qe HO312.out).2.1)
     rintro e w24 ⟨v314,rfl,ho0,hb⟩
     refine ⟨_,rfl,?_⟩
     have _:=qm (Kd.R_elder' HO297.out (Kd.R_base ho0) hb)
     have _:=qm (Kd.R_elder' HO303.out (Kd.R_base ho0) hb)
     have _:=qm (Kd.R_elder' HO312.out (Kd.R_base ho0) hb)
     have _:=qm (Kd.R_lower (nw (nw (nw ho0 HO297.out) HO303.out) HO312.out) (qs HB.out))
     have _:=qm (qv (g:=gb294) BK294.out hb)
     have _:=qm (qt HB.out hb)
     clear HO297 HO303 HO312 BK294 HB
     rename_i HO297 HO303 HO312 HO315 BK294 HB
     (try clear hb)
     (try clear hb2)
     (try clear hk)
     (try clear hi)
     (try clear ho0)
     obtain ⟨Ao25,co25,eo25⟩:=Kd.R_slice HO315.out
     (first|subst eo25|(injection eo25 with f1_ f2_ f3_;have f4_:=f1_.symm;have f5_:=f3_.symm;clear f1_ f2_ f3_;subst f4_;subst f5_))
     have q26:(8:Int)≤((t313.length:Int):Int):=of_decide_eq_true (by assumption)
     obtain ⟨i026,hi026,_,hsz26,_⟩:=info_parts info5
     have hcut26:=cut_to (P:=Try.prog) 22 5 .i64 Try.underlying22 hi026 Ao25 t313.length co25 8 (by omega) q26 (qe HO315.out).2.1
     have hr26:=Kd.R_take (m:=(8:Int).toNat) HO315.out (by omega)
     have hy26:y316.length=(8:Int).toNat:=(by rw [Ny316.out,List.length_take];omega)
     rw [←Ny316.out] at hr26
     rw [←hy26] at hr26 hcut26
     clear hy26 hi026 hsz26 HO315
     have HO318:=qm hr26
     clear hr26
     replace q26:=eq_true q26
     refine hK.out _ _ ⟨(qu BK294.out 0).trans rfl,(qu BK294.out 1).trans rfl,(qu BK294.out 2).trans rfl,(qu BK294.out 3).trans rfl⟩ (fun hHeld=>?_)
     clear hK K
     refine norm_ (a' :=?_) ?_ ?_
     rotate_left
     ·show Act.put _ (some 26) _=_
      simp only [Act.put,s1,s2,s3,i64_w,i32_w]
      rfl
     refine pu 6 27 (bm 7 8) HT_ (h:=⟨_,by intro w';go_simp;with_reducible rfl,_,by simp only [Act.put,s1,s2,s3,i64_w,i32_w];rfl,?_⟩)
     refine pu 7 8 (bm 8 8) HT_ (h:=⟨_,by intro w';go_simp;with_reducible rfl,_,by simp only [Act.put,s1,s2,s3,i64_w,i32_w];rfl,?_⟩)
     refine done_ (done_of HT_.out (by kernel_rfl)) ?_
     try go_wp2
     go_ret
     exact ⟨_,by first|rfl|(simp <;> rfl)|(simp [*] <;> rfl),by (with_reducible repeat (first|apply qb|apply qc|apply qd));exact qg HO318.out (fun _ hk=>trivial),HB.out⟩
    rw [if_neg c11] at H
    exact absurd H (by simp)
   rw [if_neg c9] at H
   exact absurd H (by simp)
  rw [if_neg c8] at H
  exact absurd H (by simp)
 rw [if_neg c7] at H
 exact absurd H (by simp)
def spec_Seal.j0:Nat→Int→List Int→List Int→Bool→List Int→List Int→List Int→List Int→Option (List Int×Int)
 |0,_,_,_,_,_,_,_,_=>none
 |k+1,x1,x2,x3,x22,x320000,x320001,x320002,x320003=>if x22=true then (some ((([]:List Int)),1)) else (if (wrap64 ((x2.length:Int)+(x3.length:Int)))>1500 then (some ((([]:List Int)),4)) else ((spec_l01Digits.f k x1 8).bind fun t327=>((spec_l03Xor.f k x320002 t327).bind fun t330=>((spec_l03Stream.f k x320000 x320001 x320002 x320003 t330 (x3.length:Int)).bind fun t333=>((spec_l03Xor.f k x3 t333).bind fun t336=>((spec_l03Tag.f k x320000 x320001 x320002 x320003 t330 x2 t336).bind fun t339=>(if t336.length+t339.length<140737488355328 then (some ((t336 ++ t339),0)) else (none))))))))
def spec_Seal.f (k:Nat) (l0_0:List Int) (l0_1:List Int) (l0_2:List Int) (l0_3:List Int) (a1:Int) (l2:List Int) (l3:List Int):Option (List Int×Int):=(spec_l03KeysOK.f l0_0 l0_1 l0_2 l0_3).bind fun t320=>(if t320=true then (if a1<0 then (spec_Seal.j0 k a1 l2 l3 true l0_0 l0_1 l0_2 l0_3) else (spec_Seal.j0 k a1 l2 l3 (decide (a1>4611686018427387903)) l0_0 l0_1 l0_2 l0_3)) else (spec_Seal.j0 k a1 l2 l3 true l0_0 l0_1 l0_2 l0_3))
set_option maxHeartbeats 8000000 in
set_option maxRecDepth 100000 in
theorem spec_Seal.calls (k:Nat) (A0_0:Option Addr) (c0_0:Nat) (l0_0:List Int) (A0_1:Option Addr) (c0_1:Nat) (l0_1:List Int) (A0_2:Option Addr) (c0_2:Nat) (l0_2:List Int) (A0_3:Option Addr) (c0_3:Nat) (l0_3:List Int) (a1:Int) (A2:Option Addr) (c2:Nat) (l2:List Int) (A3:Option Addr) (c3:Nat) (l3:List Int) (r1:List Int) (r2:Int) (w:World) (hr0_0:Kd.C (Kd.int .u8) w A0_0 l0_0.length l0_0) (hc0_0:l0_0.length≤c0_0) (hr0_1:Kd.C (Kd.int .u8) w A0_1 l0_1.length l0_1) (hc0_1:l0_1.length≤c0_1) (hr0_2:Kd.C (Kd.int .u8) w A0_2 l0_2.length l0_2) (hc0_2:l0_2.length≤c0_2) (hr0_3:Kd.C (Kd.int .u8) w A0_3 l0_3.length l0_3) (hc0_3:l0_3.length≤c0_3) (hr2:Kd.C (Kd.int .u8) w A2 l2.length l2) (hc2:l2.length≤c2) (hr3:Kd.C (Kd.int .u8) w A3 l3.length l3) (hc3:l3.length≤c3) (h:spec_Seal.f k l0_0 l0_1 l0_2 l0_3 a1 l2 l3=some (r1,r2)) :
  Calls Try.prog 39 #[.agg #[.slice A0_0 l0_0.length c0_0, .slice A0_1 l0_1.length c0_1, .slice A0_2 l0_2.length c0_2, .slice A0_3 l0_3.length c0_3], .int .i64 a1, .slice A2 l2.length c2, .slice A3 l3.length c3] w fun e w' =>∃ v0_:Value,e = .returned (.tuple #[v0_, .int .i64 r2])∧Kd.R (Kd.int .u8) 5 w' w.heap.size (fun _=>True) v0_ r1∧Below w.heap.size w w' :=by
 have hu33:=Try.underlying33
 have HR0_0:=qm hr0_0
 have HC0_0:=qm hc0_0
 clear hr0_0 hc0_0
 have HR0_1:=qm hr0_1
 have HC0_1:=qm hc0_1
 clear hr0_1 hc0_1
 have HR0_2:=qm hr0_2
 have HC0_2:=qm hc0_2
 clear hr0_2 hc0_2
 have HR0_3:=qm hr0_3
 have HC0_3:=qm hc0_3
 clear hr0_3 hc0_3
 have HR2:=qm hr2
 have HC2:=qm hc2
 clear hr2 hc2
 have HR3:=qm hr3
 have HC3:=qm hc3
 clear hr3 hc3
 have HB:=qm (Below.refl w.heap.size w)
 have H:((spec_l03KeysOK.f l0_0 l0_1 l0_2 l0_3).bind fun t320=>(if t320=true then (if a1<0 then (spec_Seal.j0 k a1 l2 l3 true l0_0 l0_1 l0_2 l0_3) else (spec_Seal.j0 k a1 l2 l3 (decide (a1>4611686018427387903)) l0_0 l0_1 l0_2 l0_3)) else (spec_Seal.j0 k a1 l2 l3 true l0_0 l0_1 l0_2 l0_3)))=some (r1,r2):=h
 clear h
 have HC5:=qm H
 clear H
 go_enter Try.func39,Try.ntmps39
 go_upto_region 1 with (first|((with_reducible refine gate_dst (N:=4) rfl ?_);refine box_event (by rfl) (N:=4) (by rfl) (cs:=#[.slice A0_0 l0_0.length c0_0, .slice A0_1 l0_1.length c0_1, .slice A0_2 l0_2.length c0_2, .slice A0_3 l0_3.length c0_3]) (t:=33) (by first|(go_simp;done)|(go_simp;rfl)) ?_;intro gb319 hg w6 hbox hb;have _:=qm (qt HB.out hb);have _:=qm (hbox);have _:=qm ((gs hg (qs HB.out)));have _:=qm ((gs hg (qs HB.out)));clear HB;rename_i HB BK319 GW319 GE319;clear hb hbox hg))
 (try simp only [Act.put,s1,s2,s3])
 go_cut [22] (fun v22 wc=>∃ (kq:Nat) (x22_4:Bool),v22 = .bool x22_4∧Aside0 (spec_Seal.j0 kq a1 l2 l3 x22_4 l0_0 l0_1 l0_2 l0_3=some (r1,r2))∧Aside0 (kq≤k)∧Aside0 (wc.heap[gb319]? =some (.cells #[(.slice A0_0 l0_0.length c0_0),(.slice A0_1 l0_1.length c0_1),(.slice A0_2 l0_2.length c0_2),(.slice A0_3 l0_3.length c0_3)] 33 (0,0)))∧Aside0 (Below w.heap.size w wc))
 case first=>
  have H:=HC5.out
  clear HC5
  replace H:=Option.bind_eq_some_iff.mp H
  obtain ⟨t320,A70,H⟩:=H
  try dsimp only at H
  have A7:=qm A70
  clear A70
  by_cases c8:t320=true
  ·subst c8
   rw [if_pos rfl] at H
   by_cases c9:a1<0
   ·rw [if_pos c9] at H
    have c9b0:decide (a1<0)=true:=decide_eq_true c9
    clear c9
    (first|rw [c9b0]|(simp only [i64_w,i32_w];rw [c9b0])|skip)
    have H' :=qm H
    clear H
    obtain ⟨_,_,_,_,_,_,_,_⟩:=fc4 BK319.out
    go_wp2_with (first|((with_reducible refine gate_callee (f:=55) rfl ?_);refine goesL_ (some 13) rfl rfl Try.func55 (by kernel_rfl) rfl #[.agg #[.slice A0_0 l0_0.length c0_0, .slice A0_1 l0_1.length c0_1, .slice A0_2 l0_2.length c0_2, .slice A0_3 l0_3.length c0_3]] rfl (by (try simp only [m1,m2,m3]);first|done|rfl) ?_;(with_reducible refine (spec_l03KeysOK.calls _ _ l0_0 _ _ l0_1 _ _ l0_2 _ _ l0_3 true _ ?side1 ?side2 ?side3 ?side4 ?side5 ?side6 ?side7 ?side8 A7.out).mono ?_);(case side1=>exact cb (Kd.C_below HR0_0.out HB.out));(case side2=>exact HC0_0.out);(case side3=>exact cb (Kd.C_below HR0_1.out HB.out));(case side4=>exact HC0_1.out);(case side5=>exact cb (Kd.C_below HR0_2.out HB.out));(case side6=>exact HC0_2.out);(case side7=>exact cb (Kd.C_below HR0_3.out HB.out));(case side8=>exact HC0_3.out);rintro e w11 ⟨rfl,hb⟩;refine ⟨_,rfl,?_⟩;have _:=qm (qv (g:=gb319) BK319.out hb);have _:=qm (qt HB.out hb);clear BK319 HB;rename_i BK319 HB))
    go_meet
    case rel=>exact ⟨_,(true),rfl,H',⟨by first|omega|exact Nat.le_refl _⟩,⟨BK319.out⟩,⟨HB.out⟩⟩
   rw [if_neg c9] at H
   have c9b0:decide (a1<0)=false:=decide_eq_false c9
   clear c9
   (first|rw [c9b0]|(simp only [i64_w,i32_w];rw [c9b0])|skip)
   have H' :=qm H
   clear H
   obtain ⟨_,_,_,_,_,_,_,_⟩:=fc4 BK319.out
   go_wp2_with (first|((with_reducible refine gate_callee (f:=55) rfl ?_);refine goesL_ (some 13) rfl rfl Try.func55 (by kernel_rfl) rfl #[.agg #[.slice A0_0 l0_0.length c0_0, .slice A0_1 l0_1.length c0_1, .slice A0_2 l0_2.length c0_2, .slice A0_3 l0_3.length c0_3]] rfl (by (try simp only [m1,m2,m3]);first|done|rfl) ?_;(with_reducible refine (spec_l03KeysOK.calls _ _ l0_0 _ _ l0_1 _ _ l0_2 _ _ l0_3 true _ ?side1 ?side2 ?side3 ?side4 ?side5 ?side6 ?side7 ?side8 A7.out).mono ?_);(case side1=>exact cb (Kd.C_below HR0_0.out HB.out));(case side2=>exact HC0_0.out);(case side3=>exact cb (Kd.C_below HR0_1.out HB.out));(case side4=>exact HC0_1.out);(case side5=>exact cb (Kd.C_below HR0_2.out HB.out));(case side6=>exact HC0_2.out);(case side7=>exact cb (Kd.C_below HR0_3.out HB.out));(case side8=>exact HC0_3.out);rintro e w13 ⟨rfl,hb⟩;refine ⟨_,rfl,?_⟩;have _:=qm (qv (g:=gb319) BK319.out hb);have _:=qm (qt HB.out hb);clear BK319 HB;rename_i BK319 HB))
   go_meet
   case rel=>exact ⟨_,(decide (a1>4611686018427387903)),rfl,H',⟨by first|omega|exact Nat.le_refl _⟩,⟨BK319.out⟩,⟨HB.out⟩⟩
  replace c8:=Bool.eq_false_iff.mpr c8
  subst c8
  rw [if_neg nt] at H
  have H' :=qm H
  clear H
  obtain ⟨_,_,_,_,_,_,_,_⟩:=fc4 BK319.out
  go_wp2_with (first|((with_reducible refine gate_callee (f:=55) rfl ?_);refine goesL_ (some 13) rfl rfl Try.func55 (by kernel_rfl) rfl #[.agg #[.slice A0_0 l0_0.length c0_0, .slice A0_1 l0_1.length c0_1, .slice A0_2 l0_2.length c0_2, .slice A0_3 l0_3.length c0_3]] rfl (by (try simp only [m1,m2,m3]);first|done|rfl) ?_;(with_reducible refine (spec_l03KeysOK.calls _ _ l0_0 _ _ l0_1 _ _ l0_2 _ _ l0_3 false _ ?side1 ?side2 ?side3 ?side4 ?side5 ?side6 ?side7 ?side8 A7.out).mono ?_);(case side1=>exact cb (Kd.C_below HR0_0.out HB.out));(case side2=>exact HC0_0.out);(case side3=>exact cb (Kd.C_below HR0_1.out HB.out));(case side4=>exact HC0_1.out);(case side5=>exact cb (Kd.C_below HR0_2.out HB.out));(case side6=>exact HC0_2.out);(case side7=>exact cb (Kd.C_below HR0_3.out HB.out));(case side8=>exact HC0_3.out);rintro e w15 ⟨rfl,hb⟩;refine ⟨_,rfl,?_⟩;have _:=qm (qv (g:=gb319) BK319.out hb);have _:=qm (qt HB.out hb);clear BK319 HB;rename_i BK319 HB))
  go_meet
  case rel=>exact ⟨_,(true),rfl,H',⟨by first|omega|exact Nat.le_refl _⟩,⟨BK319.out⟩,⟨HB.out⟩⟩
 clear HC5
 try clear c2
 try clear c3
 obtain ⟨kq,x22_4,rfl,HA,HJ4,BK319,HB⟩:=hcut
 cases kq with
 |zero=>exact absurd HA.out (by simp [spec_Seal.j0])
 |succ kj4=>?_
 have H:=HA.out
 clear HA
 simp only [spec_Seal.j0] at H
 by_cases c16:x22_4=true
 ·subst c16
  rw [if_pos rfl] at H
  obtain ⟨y321,hy321⟩:∃ y_:List Int,y_=(([]:List Int)):=⟨_,rfl⟩
  replace H:(some (y321,1))=some (r1,r2):=by first|(rw [hy321];with_reducible exact H)|(have H2_:=(Option.bind_some _ _).symm.trans H;rw [hy321];with_reducible exact H2_)|(have H2_:=(Option.bind_some _ _).symm.trans H;with_reducible exact H2_)|with_reducible exact H|(rw [hy321];exact H)|exact H
  have Ny321:=qm hy321
  clear hy321
  simp only [Option.some.injEq,Prod.mk.injEq] at H
  obtain ⟨rfl,rfl⟩:=H
  go_wp2_with (first|((with_reducible refine gate_dst (N:=23) rfl ?_);refine Kd.R_lit (Kd.int .u8) _ 5 ?hg (N:=23) ?hd (xs:=([]:List Int)) (inner:=[]) (ok:=fun _=>True) (okp:=fun _=>True) ?hr ?hp (fun _ hk=>hk) trivial (Below.refl _ _) (Nat.le_refl _) (by simp) ?_;(case hd=>rfl);(case hg=>rfl);(case hr=>first|(go_simp;done)|(go_simp;rfl));(case hp=>exact (Reps.none _ _));intro v322 w17 ho18 hb hg_ hnew_;clear hg_ hnew_;(first|rw [←Ny321.out] at ho18|(simp only [Int.reduceToNat] at ho18;rw [←Ny321.out] at ho18));have _:=qm (Kd.R_lower ho18 (qs HB.out));have _:=qm (qv (g:=gb319) BK319.out hb);have _:=qm (qt HB.out hb);clear BK319 HB;rename_i HO323 BK319 HB;clear hb ho18))
  go_ret2
  exact ⟨_,by first|rfl|(simp <;> rfl)|(simp [*] <;> rfl),HO323.out,HB.out⟩
 replace c16:=Bool.eq_false_iff.mpr c16
 subst c16
 rw [if_neg nt] at H
 by_cases c19:(wrap64 ((l2.length:Int)+(l3.length:Int)))>1500
 ·rw [if_pos c19] at H
  have c19b0:decide (1500<(wrap64 ((l2.length:Int)+(l3.length:Int))))=true:=decide_eq_true c19
  clear c19
  obtain ⟨y324,hy324⟩:∃ y_:List Int,y_=(([]:List Int)):=⟨_,rfl⟩
  replace H:(some (y324,4))=some (r1,r2):=by first|(rw [hy324];with_reducible exact H)|(have H2_:=(Option.bind_some _ _).symm.trans H;rw [hy324];with_reducible exact H2_)|(have H2_:=(Option.bind_some _ _).symm.trans H;with_reducible exact H2_)|with_reducible exact H|(rw [hy324];exact H)|exact H
  have Ny324:=qm hy324
  clear hy324
  simp only [Option.some.injEq,Prod.mk.injEq] at H
  obtain ⟨rfl,rfl⟩:=H
  go_wp2_with (first|((with_reducible refine gate_dst (N:=30) rfl ?_);refine Kd.R_lit (Kd.int .u8) _ 5 ?hg (N:=30) ?hd (xs:=([]:List Int)) (inner:=[]) (ok:=fun _=>True) (okp:=fun _=>True) ?hr ?hp (fun _ hk=>hk) trivial (Below.refl _ _) (Nat.le_refl _) (by simp) ?_;(case hd=>rfl);(case hg=>rfl);(case hr=>first|(go_simp;done)|(go_simp;rfl));(case hp=>exact (Reps.none _ _));intro v325 w20 ho21 hb hg_ hnew_;clear hg_ hnew_;(first|rw [←Ny324.out] at ho21|(simp only [Int.reduceToNat] at ho21;rw [←Ny324.out] at ho21));have _:=qm (Kd.R_lower ho21 (qs HB.out));have _:=qm (qv (g:=gb319) BK319.out hb);have _:=qm (qt HB.out hb);clear BK319 HB;rename_i HO326 BK319 HB;clear hb ho21))
  go_ret2
  exact ⟨_,by first|rfl|(simp <;> rfl)|(simp [*] <;> rfl),HO326.out,HB.out⟩
 rw [if_neg c19] at H
 have c19b0:decide (1500<(wrap64 ((l2.length:Int)+(l3.length:Int))))=false:=decide_eq_false c19
 clear c19
 replace H:=Option.bind_eq_some_iff.mp H
 obtain ⟨t327,A220,H⟩:=H
 try dsimp only at H
 have A22:=qm A220
 clear A220
 replace H:=Option.bind_eq_some_iff.mp H
 obtain ⟨t330,A230,H⟩:=H
 try dsimp only at H
 have A23:=qm A230
 clear A230
 replace H:=Option.bind_eq_some_iff.mp H
 obtain ⟨t333,A240,H⟩:=H
 try dsimp only at H
 have A24:=qm A240
 clear A240
 replace H:=Option.bind_eq_some_iff.mp H
 obtain ⟨t336,A250,H⟩:=H
 try dsimp only at H
 have A25:=qm A250
 clear A250
 replace H:=Option.bind_eq_some_iff.mp H
 obtain ⟨t339,A260,H⟩:=H
 try dsimp only at H
 have A26:=qm A260
 clear A260
 by_cases c27:t336.length+t339.length<140737488355328
 ·rw [if_pos c27] at H
  have LMc27:=qm c27
  clear c27
  obtain ⟨y342,hy342⟩:∃ y_:List Int,y_=(t336 ++ t339):=⟨_,rfl⟩
  replace H:(some (y342,0))=some (r1,r2):=by first|(rw [hy342];with_reducible exact H)|(have H2_:=(Option.bind_some _ _).symm.trans H;rw [hy342];with_reducible exact H2_)|(have H2_:=(Option.bind_some _ _).symm.trans H;with_reducible exact H2_)|with_reducible exact H|(rw [hy342];exact H)|exact H
  have Ny342:=qm hy342
  clear hy342
  simp only [Option.some.injEq,Prod.mk.injEq] at H
  obtain ⟨rfl,rfl⟩:=H
  try go_wp2
  have _:=qm (blk_drew BK319.out)
  have _:=qm (below_drew1 HB.out)
  clear BK319 HB
  rename_i BK319 HB
  refine start_ (n:=6) (S:=fun w' =>w'.cell? ⟨gb319,0,none⟩=some (.slice A0_0 l0_0.length c0_0)∧w'.cell? ⟨gb319,1,none⟩=some (.slice A0_1 l0_1.length c0_1)∧w'.cell? ⟨gb319,2,none⟩=some (.slice A0_2 l0_2.length c0_2)∧w'.cell? ⟨gb319,3,none⟩=some (.slice A0_3 l0_3.length c0_3)) (ds:=[]) (bm 0 6) (by kernel_rfl) rfl rfl ⟨(qu BK319.out 0).trans rfl,(qu BK319.out 1).trans rfl,(qu BK319.out 2).trans rfl,(qu BK319.out 3).trans rfl⟩ (fun hHeld=>?_)
  generalize wc.drew=w28 at BK319 HB hHeld ⊢
  refine pure_ (i:=0) (N:=some 31) (v:=?_) (a' :=?_) (bm 1 6) rfl rfl (by kernel_rfl) (fun _ _ _ h=>h) (Or.inl ⟨by rfl,?_⟩) ?_ ?_
  rotate_left
  ·intro w'
   go_simp
   with_reducible rfl
  rotate_left
  ·simp only [Act.put,s1,s2,s3,i64_w,i32_w]
   rfl
  refine pure_ (i:=2) (N:=some 33) (v:=?_) (a' :=?_) (bb 5 6) rfl rfl (by kernel_rfl) (fun _ _ _ h=>h) (Or.inl ⟨by rfl,?_⟩) ?_ ?_
  rotate_left
  ·intro w'
   go_simp
   with_reducible rfl
  rotate_left
  ·simp only [Act.put,s1,s2,s3,i64_w,i32_w]
   rfl
  refine take_ (i:=1) (N:=some 32) (v:=?_) (a' :=?_) (bm 3 6) rfl rfl (by kernel_rfl) (fun _ _ _ h=>h) (Or.inl ⟨by rfl,?_⟩) hHeld ?_ ?_
  rotate_left
  ·rintro w' ⟨s0,s1,s2,s3⟩
   go_simp
   with_reducible rfl
  rotate_left
  ·simp only [Act.put,s1,s2,s3,i64_w,i32_w]
   rfl
  refine one_ (i:=3) (N:=some 34) (bm 4 6) rfl rfl (by kernel_rfl) (by decide) (fun K hK=>?_)
  refine goes_ Try.func64 (by kernel_rfl) rfl #[.int .i64 a1, .int .i64 8] (by rfl) rfl rfl (by (try simp only [m1,m2,m3]);first|done|rfl) ?_
  with_reducible refine (spec_l01Digits.calls kj4 a1 8 t327 _ A22.out).mono ?_
  rintro e w29 ⟨v328,rfl,ho0,hb⟩
  refine ⟨_,rfl,?_⟩
  have _:=qm (Kd.R_lower ho0 (qs HB.out))
  have _:=qm (qv (g:=gb319) BK319.out hb)
  have _:=qm (qt HB.out hb)
  clear BK319 HB
  rename_i HO329 BK319 HB
  (try clear hb)
  (try clear hb2)
  (try clear hk)
  (try clear hi)
  (try clear ho0)
  obtain ⟨Ao30,co30,eo30⟩:=Kd.R_slice HO329.out
  (first|subst eo30|(injection eo30 with f1_ f2_ f3_;have f4_:=f1_.symm;have f5_:=f3_.symm;clear f1_ f2_ f3_;subst f4_;subst f5_))
  refine hK.out _ _ ⟨(qu BK319.out 0).trans rfl,(qu BK319.out 1).trans rfl,(qu BK319.out 2).trans rfl,(qu BK319.out 3).trans rfl⟩ (fun hHeld=>?_)
  clear hK K
  refine norm_ (a' :=?_) ?_ ?_
  rotate_left
  ·show Act.put _ (some 34) _=_
   simp only [Act.put,s1,s2,s3,i64_w,i32_w]
   rfl
  refine one_ (i:=4) (N:=some 35) (bm 5 6) rfl rfl (by kernel_rfl) (by decide) (fun K hK=>?_)
  refine goes_ Try.func63 (by kernel_rfl) rfl #[.slice A0_2 l0_2.length c0_2, .slice Ao30 t327.length co30] (by rfl) rfl rfl (by (try simp only [m1,m2,m3]);first|done|rfl) ?_
  with_reducible refine (spec_l03Xor.calls kj4 _ _ l0_2 _ _ t327 t330 _ ?side1 ?side2 ?side3 ?side4 A23.out).mono ?_
  (case side1=>exact cb (Kd.C_below HR0_2.out HB.out))
  (case side2=>exact HC0_2.out)
  (case side3=>exact cb ((qe HO329.out).2.2))
  (case side4=>exact (qe HO329.out).2.1)
  rintro e w31 ⟨v331,rfl,ho0,hb⟩
  refine ⟨_,rfl,?_⟩
  have _:=qm (Kd.R_elder' HO329.out (Kd.R_base ho0) hb)
  have _:=qm (Kd.R_lower (nw ho0 HO329.out) (qs HB.out))
  have _:=qm (qv (g:=gb319) BK319.out hb)
  have _:=qm (qt HB.out hb)
  clear HO329 BK319 HB
  rename_i HO329 HO332 BK319 HB
  (try clear hb)
  (try clear hb2)
  (try clear hk)
  (try clear hi)
  (try clear ho0)
  refine hK.out _ _ ⟨(qu BK319.out 0).trans rfl,(qu BK319.out 1).trans rfl,(qu BK319.out 2).trans rfl,(qu BK319.out 3).trans rfl⟩ (fun hHeld=>?_)
  clear hK K
  refine norm_ (a' :=?_) ?_ ?_
  rotate_left
  ·show Act.put _ (some 35) _=_
   simp only [Act.put,s1,s2,s3,i64_w,i32_w]
   rfl
  refine pure_ (i:=5) (N:=some 10) (v:=?_) (a' :=?_) (bm 6 6) rfl rfl (by kernel_rfl) (fun _ _ _ h=>h) (Or.inl ⟨by rfl,?_⟩) ?_ ?_
  rotate_left
  ·intro w'
   go_simp
   with_reducible rfl
  rotate_left
  ·simp only [Act.put,s1,s2,s3,i64_w,i32_w]
   rfl
  refine done_ (by kernel_rfl) ?_
  obtain ⟨_,_,_,_,_,_,_,_⟩:=fc4 BK319.out
  obtain ⟨Ao33,co33,eo33⟩:=Kd.R_slice HO332.out
  subst eo33
  try go_wp2_with (first|((with_reducible refine gate_callee (f:=65) rfl ?_);refine goesL_ (some 41) rfl rfl Try.func65 (by kernel_rfl) rfl #[.agg #[.slice A0_0 l0_0.length c0_0, .slice A0_1 l0_1.length c0_1, .slice A0_2 l0_2.length c0_2, .slice A0_3 l0_3.length c0_3], .slice Ao33 t330.length co33, .int .i64 (l3.length:Int)] rfl (by (try simp only [m1,m2,m3]);first|done|rfl) ?_;(with_reducible refine (spec_l03Stream.calls kj4 _ _ l0_0 _ _ l0_1 _ _ l0_2 _ _ l0_3 _ _ t330 (l3.length:Int) t333 _ ?side1 ?side2 ?side3 ?side4 ?side5 ?side6 ?side7 ?side8 ?side9 ?side10 A24.out).mono ?_);(case side1=>exact cb (Kd.C_below HR0_0.out HB.out));(case side2=>exact HC0_0.out);(case side3=>exact cb (Kd.C_below HR0_1.out HB.out));(case side4=>exact HC0_1.out);(case side5=>exact cb (Kd.C_below HR0_2.out HB.out));(case side6=>exact HC0_2.out);(case side7=>exact cb (Kd.C_below HR0_3.out HB.out));(case side8=>exact HC0_3.out);(case side9=>exact cb ((qe HO332.out).2.2));(case side10=>exact (qe HO332.out).2.1);rintro e w34 ⟨v334,rfl,ho0,hb⟩;refine ⟨_,rfl,?_⟩;have _:=qm (Kd.R_elder' HO329.out (Kd.R_base ho0) hb);have _:=qm (Kd.R_elder' HO332.out (Kd.R_base ho0) hb);have _:=qm (Kd.R_lower (nw (nw ho0 HO329.out) HO332.out) (qs HB.out));have _:=qm (qv (g:=gb319) BK319.out hb);have _:=qm (qt HB.out hb);clear HO329 HO332 BK319 HB;rename_i HO329 HO332 HO335 BK319 HB;obtain ⟨Ao35,co35,eo35⟩:=Kd.R_slice HO335.out;subst eo35)|((with_reducible refine gate_callee (f:=63) rfl ?_);refine goesL_ (some 42) rfl rfl Try.func63 (by kernel_rfl) rfl #[.slice A3 l3.length c3, .slice Ao35 t333.length co35] rfl (by (try simp only [m1,m2,m3]);first|done|rfl) ?_;(with_reducible refine (spec_l03Xor.calls kj4 _ _ l3 _ _ t333 t336 _ ?side1 ?side2 ?side3 ?side4 A25.out).mono ?_);(case side1=>exact cb (Kd.C_below HR3.out HB.out));(case side2=>exact HC3.out);(case side3=>exact cb ((qe HO335.out).2.2));(case side4=>exact (qe HO335.out).2.1);rintro e w36 ⟨v337,rfl,ho0,hb⟩;refine ⟨_,rfl,?_⟩;have _:=qm (Kd.R_elder' HO329.out (Kd.R_base ho0) hb);have _:=qm (Kd.R_elder' HO332.out (Kd.R_base ho0) hb);have _:=qm (Kd.R_elder' HO335.out (Kd.R_base ho0) hb);have _:=qm (Kd.R_lower (nw (nw (nw ho0 HO329.out) HO332.out) HO335.out) (qs HB.out));have _:=qm (qv (g:=gb319) BK319.out hb);have _:=qm (qt HB.out hb);clear HO329 HO332 HO335 BK319 HB;rename_i HO329 HO332 HO335 HO338 BK319 HB;obtain ⟨_,_,_,_,_,_,_,_⟩:=fc4 BK319.out;obtain ⟨Ao38,co38,eo38⟩:=Kd.R_slice HO338.out;subst eo38)|((with_reducible refine gate_callee (f:=66) rfl ?_);refine goesL_ (some 48) rfl rfl Try.func66 (by kernel_rfl) rfl #[.agg #[.slice A0_0 l0_0.length c0_0, .slice A0_1 l0_1.length c0_1, .slice A0_2 l0_2.length c0_2, .slice A0_3 l0_3.length c0_3], .slice Ao33 t330.length co33, .slice A2 l2.length c2, .slice Ao38 t336.length co38] rfl (by (try simp only [m1,m2,m3]);first|done|rfl) ?_;(with_reducible refine (spec_l03Tag.calls kj4 _ _ l0_0 _ _ l0_1 _ _ l0_2 _ _ l0_3 _ _ t330 _ _ l2 _ _ t336 t339 _ ?side1 ?side2 ?side3 ?side4 ?side5 ?side6 ?side7 ?side8 ?side9 ?side10 ?side11 ?side12 ?side13 ?side14 A26.out).mono ?_);(case side1=>exact cb (Kd.C_below HR0_0.out HB.out));(case side2=>exact HC0_0.out);(case side3=>exact cb (Kd.C_below HR0_1.out HB.out));(case side4=>exact HC0_1.out);(case side5=>exact cb (Kd.C_below HR0_2.out HB.out));(case side6=>exact HC0_2.out);(case side7=>exact cb (Kd.C_below HR0_3.out HB.out));(case side8=>exact HC0_3.out);(case side9=>exact cb ((qe HO332.out).2.2));(case side10=>exact (qe HO332.out).2.1);(case side11=>exact cb (Kd.C_below HR2.out HB.out));(case side12=>exact HC2.out);(case side13=>exact cb ((qe HO338.out).2.2));(case side14=>exact (qe HO338.out).2.1);rintro e w39 ⟨v340,rfl,ho0,hb⟩;refine ⟨_,rfl,?_⟩;have _:=qm (Kd.R_elder' HO329.out (Kd.R_base ho0) hb);have _:=qm (Kd.R_elder' HO332.out (Kd.R_base ho0) hb);have _:=qm (Kd.R_elder' HO335.out (Kd.R_base ho0) hb);have _:=qm (Kd.R_elder' HO338.out (Kd.R_base ho0) hb);have _:=qm (Kd.R_lower (nw (nw (nw (nw ho0 HO329.out) HO332.out) HO335.out) HO338.out) (qs HB.out));have _:=qm (qv (g:=gb319) BK319.out hb);have _:=qm (qt HB.out hb);clear HO329 HO332 HO335 HO338 BK319 HB;rename_i HO329 HO332 HO335 HO338 HO341 BK319 HB;obtain ⟨Ao41,co41,eo41⟩:=Kd.R_slice HO341.out;subst eo41)|((with_reducible refine gate_builtin (b:= .append) (xs:=#[.tmp 43, .tmp 48]) rfl ?_);at_builtin;refine Kd.R_append_rows (Kd.int .u8) (w0:=w) w.heap.size rfl (.tmp 43) (.tmp 48) 22 5 (.int .u8 0) 1 rfl Try.underlying22 info5 rfl (by decide) (by omega) (.slice Ao38 t336.length co38) t336 t339 _ _ _ (fun k_=>ob k_ (.slice Ao30 t327.length co30)∧ob k_ (.slice Ao33 t330.length co33)∧ob k_ (.slice Ao35 t333.length co35)∧ob k_ (.slice Ao41 t339.length co41)) (fun _=>False) rfl rfl ?aO ?aR (fun _ _ h=>h) (fun _ h=>h.elim) ?aF ?aB ?aS ?aL ?_;(case aR=>exact cb ((qe HO341.out).2.2));(case aB=>exact HB.out);(case aF=>exact (fun k_ hk=>⟨Kd.fresh' (Kd.R_lt HO329.out) k_ hk,Kd.fresh' (Kd.R_lt HO332.out) k_ hk,Kd.fresh' (Kd.R_lt HO335.out) k_ hk,Kd.fresh' (Kd.R_lt HO341.out) k_ hk⟩));(case aO=>exact (rb (qg HO338.out (fun _ hk=>⟨hk.1.1.1.2,⟨hk.1.1.2,⟨hk.1.2,hk.2⟩⟩⟩))));(case aS=>exact (qs HB.out));(case aL=>have:=LMc27.out;omega);intro v343 w40 ho hb hg hat;rw [←Ny342.out] at ho;have _:=qm (blk_grown (g:=gb319) BK319.out hg (Kd.R_ne HO338.out BK319.out (by decide)));have _:=qm (Kd.R_after (ok:=(fun k_=>ob k_ (.slice Ao33 t330.length co33)∧ob k_ (.slice Ao35 t333.length co35)∧ob k_ (.slice Ao41 t339.length co41))) (rb (qg HO329.out (fun _ hk=>⟨⟨hk.1.1.1.2,⟨hk.1.1.2,hk.2⟩⟩,hk.1.2⟩))) hg hat);have _:=qm (Kd.R_after (ok:=(fun k_=>ob k_ (.slice Ao30 t327.length co30)∧ob k_ (.slice Ao35 t333.length co35)∧ob k_ (.slice Ao41 t339.length co41))) (rb (qg HO332.out (fun _ hk=>⟨⟨hk.1.1.1.2,⟨hk.1.1.2,hk.2⟩⟩,hk.1.2⟩))) hg hat);have _:=qm (Kd.R_after (ok:=(fun k_=>ob k_ (.slice Ao30 t327.length co30)∧ob k_ (.slice Ao33 t330.length co33)∧ob k_ (.slice Ao41 t339.length co41))) (rb (qg HO335.out (fun _ hk=>⟨⟨hk.1.1.1.2,⟨hk.1.1.2,hk.2⟩⟩,hk.1.2⟩))) hg hat);have _:=qm (Kd.R_after (ok:=(fun k_=>ob k_ (.slice Ao30 t327.length co30)∧ob k_ (.slice Ao33 t330.length co33)∧ob k_ (.slice Ao35 t333.length co35))) (rb (qg HO341.out (fun _ hk=>⟨⟨hk.1.1.1.2,⟨hk.1.1.2,hk.1.2⟩⟩,hk.2⟩))) hg hat);have _:=qm (hb);have _:=qm (ho);clear BK319 HO329 HO332 HO335 HO341 HB HO338;rename_i BK319 HO329 HO332 HO335 HO341 HB HO344;clear ho hb hg hat))
  go_ret2
  exact ⟨_,by first|rfl|(simp <;> rfl)|(simp [*] <;> rfl),by (with_reducible repeat (first|apply qb|apply qc|apply qd));exact qg HO344.out (fun _ hk=>trivial),HB.out⟩
 rw [if_neg c27] at H
 exact absurd H (by simp)
def spec_l04Ids.f (k:Nat) (a0:Int) (l1:List Int) (l2:List Int):Option (List Int):=(spec_l01Digits.f k a0 4).bind fun t345=>(if t345.length<140737488355328 then ((some (t345 ++ [((l1.length:Int))%256]:List Int)).bind fun y348=>(if y348.length+l1.length<140737488355328 then ((some (y348 ++ l1:List Int)).bind fun y351=>(if y351.length<140737488355328 then ((some (y351 ++ [((l2.length:Int))%256]:List Int)).bind fun y354=>(if y354.length+l2.length<140737488355328 then (some (y354 ++ l2)) else (none))) else (none))) else (none))) else (none))
set_option maxHeartbeats 8000000 in
set_option maxRecDepth 100000 in
theorem spec_l04Ids.calls (k:Nat) (a0:Int) (A1:Option Addr) (c1:Nat) (l1:List Int) (A2:Option Addr) (c2:Nat) (l2:List Int) (r:List Int) (w:World) (hr1:Kd.C (Kd.int .u8) w A1 l1.length l1) (hc1:l1.length≤c1) (hr2:Kd.C (Kd.int .u8) w A2 l2.length l2) (hc2:l2.length≤c2) (h:spec_l04Ids.f k a0 l1 l2=some r) :
  Calls Try.prog 58 #[.int .i64 a0, .slice A1 l1.length c1, .slice A2 l2.length c2] w fun e w' =>∃ v0_:Value,e = .returned (v0_)∧Kd.R (Kd.int .u8) 5 w' w.heap.size (fun _=>True) v0_ r∧Below w.heap.size w w' :=by
 have HR1:=qm hr1
 have HC1:=qm hc1
 clear hr1 hc1
 have HR2:=qm hr2
 have HC2:=qm hc2
 clear hr2 hc2
 have HB:=qm (Below.refl w.heap.size w)
 have H:((spec_l01Digits.f k a0 4).bind fun t345=>(if t345.length<140737488355328 then ((some (t345 ++ [((l1.length:Int))%256]:List Int)).bind fun y348=>(if y348.length+l1.length<140737488355328 then ((some (y348 ++ l1:List Int)).bind fun y351=>(if y351.length<140737488355328 then ((some (y351 ++ [((l2.length:Int))%256]:List Int)).bind fun y354=>(if y354.length+l2.length<140737488355328 then (some (y354 ++ l2)) else (none))) else (none))) else (none))) else (none)))=some r:=h
 clear h
 replace H:=Option.bind_eq_some_iff.mp H
 obtain ⟨t345,A40,H⟩:=H
 try dsimp only at H
 have A4:=qm A40
 clear A40
 by_cases c5:t345.length<140737488355328
 ·rw [if_pos c5] at H
  have LMc5:=qm c5
  clear c5
  obtain ⟨y348,hy348⟩:∃ y_:List Int,y_=(t345 ++ [((l1.length:Int))%256]):=⟨_,rfl⟩
  replace H:(if y348.length+l1.length<140737488355328 then ((some (y348 ++ l1:List Int)).bind fun y351=>(if y351.length<140737488355328 then ((some (y351 ++ [((l2.length:Int))%256]:List Int)).bind fun y354=>(if y354.length+l2.length<140737488355328 then (some (y354 ++ l2)) else (none))) else (none))) else (none))=some r:=by first|(rw [hy348];with_reducible exact H)|(have H2_:=(Option.bind_some _ _).symm.trans H;rw [hy348];with_reducible exact H2_)|(have H2_:=(Option.bind_some _ _).symm.trans H;with_reducible exact H2_)|with_reducible exact H|(rw [hy348];exact H)|exact H
  have Ny348:=qm hy348
  clear hy348
  by_cases c6:y348.length+l1.length<140737488355328
  ·rw [if_pos c6] at H
   have LMc6:=qm c6
   clear c6
   obtain ⟨y351,hy351⟩:∃ y_:List Int,y_=(y348 ++ l1):=⟨_,rfl⟩
   replace H:(if y351.length<140737488355328 then ((some (y351 ++ [((l2.length:Int))%256]:List Int)).bind fun y354=>(if y354.length+l2.length<140737488355328 then (some (y354 ++ l2)) else (none))) else (none))=some r:=by first|(rw [hy351];with_reducible exact H)|(have H2_:=(Option.bind_some _ _).symm.trans H;rw [hy351];with_reducible exact H2_)|(have H2_:=(Option.bind_some _ _).symm.trans H;with_reducible exact H2_)|with_reducible exact H|(rw [hy351];exact H)|exact H
   have Ny351:=qm hy351
   clear hy351
   by_cases c7:y351.length<140737488355328
   ·rw [if_pos c7] at H
    have LMc7:=qm c7
    clear c7
    obtain ⟨y354,hy354⟩:∃ y_:List Int,y_=(y351 ++ [((l2.length:Int))%256]):=⟨_,rfl⟩
    replace H:(if y354.length+l2.length<140737488355328 then (some (y354 ++ l2)) else (none))=some r:=by first|(rw [hy354];with_reducible exact H)|(have H2_:=(Option.bind_some _ _).symm.trans H;rw [hy354];with_reducible exact H2_)|(have H2_:=(Option.bind_some _ _).symm.trans H;with_reducible exact H2_)|with_reducible exact H|(rw [hy354];exact H)|exact H
    have Ny354:=qm hy354
    clear hy354
    by_cases c8:y354.length+l2.length<140737488355328
    ·rw [if_pos c8] at H
     have LMc8:=qm c8
     clear c8
     obtain ⟨y357,hy357⟩:∃ y_:List Int,y_=(y354 ++ l2):=⟨_,rfl⟩
     replace H:(some y357)=some r:=by first|(rw [hy357];with_reducible exact H)|(have H2_:=(Option.bind_some _ _).symm.trans H;rw [hy357];with_reducible exact H2_)|(have H2_:=(Option.bind_some _ _).symm.trans H;with_reducible exact H2_)|with_reducible exact H|(rw [hy357];exact H)|exact H
     have Ny357:=qm hy357
     clear hy357
     obtain rfl:=Option.some.inj H
     go_enter Try.func58,Try.ntmps58
     go_wp2_with (first|((with_reducible refine gate_callee (f:=64) rfl ?_);refine goesL_ (some 9) rfl rfl Try.func64 (by kernel_rfl) rfl #[.int .i64 a0, .int .i64 4] rfl (by (try simp only [m1,m2,m3]);first|done|rfl) ?_;(with_reducible refine (spec_l01Digits.calls k a0 4 t345 _ A4.out).mono ?_);rintro e w9 ⟨v346,rfl,ho0,hb⟩;refine ⟨_,rfl,?_⟩;have _:=qm (Kd.R_lower ho0 (qs HB.out));have _:=qm (qt HB.out hb);clear HB;rename_i HO347 HB)|((with_reducible refine gate_builtin (b:= .append) (xs:=#[.tmp 10, .tmp 14]) rfl ?_);at_builtin;refine Kd.R_append (Kd.int .u8) (w0:=w) w.heap.size rfl (.tmp 10) (.tmp 14) 22 5 (.int .u8 0) 1 rfl Try.underlying22 info5 rfl (by decide) (by omega) v346 t345 (((l1.length:Int))%256) [.int .u8 (((l1.length:Int))%256)] (fun _=>True) (fun _=>False) rfl rfl ?aP (fun _ hk=>hk.elim) ?aF ?aO ?aB ?aS ?aL ?_;(case aP=>exact rfl);(case aB=>exact HB.out);(case aF=>exact (fun _ _=>trivial));(case aO=>exact HO347.out);(case aS=>exact (qs HB.out));(case aL=>have:=LMc5.out;omega);intro v349 w10 ho hb hg hat;rw [←Ny348.out] at ho;have _:=qm (hb);have _:=qm (ho);clear HB HO347;rename_i HB HO350;clear ho hb hg hat)|((with_reducible refine gate_builtin (b:= .append) (xs:=#[.tmp 16, .tmp 17]) rfl ?_);at_builtin;refine Kd.R_append_rows (Kd.int .u8) (w0:=w) w.heap.size rfl (.tmp 16) (.tmp 17) 22 5 (.int .u8 0) 1 rfl Try.underlying22 info5 rfl (by decide) (by omega) v349 y348 l1 _ _ _ (fun _=>True) (fun _=>False) rfl rfl ?aO ?aR (fun _ _ h=>h) (fun _ h=>h.elim) ?aF ?aB ?aS ?aL ?_;(case aR=>exact cb (Kd.C_below HR1.out HB.out));(case aB=>exact HB.out);(case aF=>exact (fun _ _=>trivial));(case aO=>exact HO350.out);(case aS=>exact (qs HB.out));(case aL=>have:=LMc6.out;omega);intro v352 w11 ho hb hg hat;rw [←Ny351.out] at ho;have _:=qm (hb);have _:=qm (ho);clear HB HO350;rename_i HB HO353;clear ho hb hg hat)|((with_reducible refine gate_builtin (b:= .append) (xs:=#[.tmp 19, .tmp 23]) rfl ?_);at_builtin;refine Kd.R_append (Kd.int .u8) (w0:=w) w.heap.size rfl (.tmp 19) (.tmp 23) 22 5 (.int .u8 0) 1 rfl Try.underlying22 info5 rfl (by decide) (by omega) v352 y351 (((l2.length:Int))%256) [.int .u8 (((l2.length:Int))%256)] (fun _=>True) (fun _=>False) rfl rfl ?aP (fun _ hk=>hk.elim) ?aF ?aO ?aB ?aS ?aL ?_;(case aP=>exact rfl);(case aB=>exact HB.out);(case aF=>exact (fun _ _=>trivial));(case aO=>exact HO353.out);(case aS=>exact (qs HB.out));(case aL=>have:=LMc7.out;omega);intro v355 w12 ho hb hg hat;rw [←Ny354.out] at ho;have _:=qm (hb);have _:=qm (ho);clear HB HO353;rename_i HB HO356;clear ho hb hg hat)|((with_reducible refine gate_builtin (b:= .append) (xs:=#[.tmp 25, .tmp 26]) rfl ?_);at_builtin;refine Kd.R_append_rows (Kd.int .u8) (w0:=w) w.heap.size rfl (.tmp 25) (.tmp 26) 22 5 (.int .u8 0) 1 rfl Try.underlying22 info5 rfl (by decide) (by omega) v355 y354 l2 _ _ _ (fun _=>True) (fun _=>False) rfl rfl ?aO ?aR (fun _ _ h=>h) (fun _ h=>h.elim) ?aF ?aB ?aS ?aL ?_;(case aR=>exact cb (Kd.C_below HR2.out HB.out));(case aB=>exact HB.out);(case aF=>exact (fun _ _=>trivial));(case aO=>exact HO356.out);(case aS=>exact (qs HB.out));(case aL=>have:=LMc8.out;omega);intro v358 w13 ho hb hg hat;rw [←Ny357.out] at ho;have _:=qm (hb);have _:=qm (ho);clear HB HO356;rename_i HB HO359;clear ho hb hg hat))
     go_ret
     exact ⟨_,by first|rfl|(simp <;> rfl)|(simp [*] <;> rfl),HO359.out,HB.out⟩
    rw [if_neg c8] at H
    exact absurd H (by simp)
   rw [if_neg c7] at H
   exact absurd H (by simp)
  rw [if_neg c6] at H
  exact absurd H (by simp)
 rw [if_neg c5] at H
 exact absurd H (by simp)
def spec_l04VersionOK.f (a0:Int):Option (Bool):=if a0≥1 then (some (decide (a0≤4294967295))) else (some false)
set_option maxHeartbeats 8000000 in
set_option maxRecDepth 100000 in
theorem spec_l04VersionOK.calls (a0:Int) (r:Bool) (w:World) (h:spec_l04VersionOK.f a0=some r) :
  Calls Try.prog 57 #[.int .i64 a0] w fun e w' =>e = .returned (.bool r)∧Drawn0 w w' :=by
 have H:(if a0≥1 then (some (decide (a0≤4294967295))) else (some false))=some r:=h
 clear h
 by_cases c2:a0≥1
 ·rw [if_pos c2] at H
  have c2b0:decide (1≤a0)=true:=decide_eq_true c2
  clear c2
  obtain rfl:=Option.some.inj H
  go_enter Try.func57,Try.ntmps57
  go_wp2
  go_ret
  exact ⟨by first|rfl|(simp;done)|(simp [*];done),by repeat (first|exact Drawn0.refl _|apply Drawn0.step)⟩
 rw [if_neg c2] at H
 have c2b0:decide (1≤a0)=false:=decide_eq_false c2
 clear c2
 obtain rfl:=Option.some.inj H
 go_enter Try.func57,Try.ntmps57
 go_wp2
 go_ret
 exact ⟨by first|rfl|(simp;done)|(simp [*];done),by repeat (first|exact Drawn0.refl _|apply Drawn0.step)⟩
end Go.Proofs.Ytcdkbdkanjifeaa.SFnExactProtectPacket
