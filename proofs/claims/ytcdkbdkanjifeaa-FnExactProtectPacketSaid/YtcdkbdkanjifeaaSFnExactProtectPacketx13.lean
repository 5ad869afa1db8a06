/- The walk of functions that the law FnExactProtectPacket uses, written by program. -/
import Derived.Test.YtcdkbdkanjifeaaSFnExactProtectPacketx0
import Derived.Test.YtcdkbdkanjifeaaSFnExactProtectPacketx11
import Derived.Test.YtcdkbdkanjifeaaSFnExactProtectPacketx12
import Derived.Test.YtcdkbdkanjifeaaSteps2
import Derived.Test.YtcdkbdkanjifeaaSteps3
namespace Go.Proofs.Ytcdkbdkanjifeaa.SFnExactProtectPacket
open Go.Proofs.Ytcdkbdkanjifeaa.Steps3 Go.Proofs.Ytcdkbdkanjifeaa.Steps2 Go.RowKit Go.Proofs.YtcdkbdkanjifeaaW.PrintWords Go.Proofs.YtcdkbdkanjifeaaW.PrintLast Go.Proofs.YtcdkbdkanjifeaaW.PrintMore
open Go.Proofs.YtcdkbdkanjifeaaW.PrintWords renaming pw_below_drewN → qi, below_drew1 → qj, below_size → qs, below_step → qt, blk_cell → qu, blk_below → qv
open Go.Proofs.YtcdkbdkanjifeaaW.PrintWords.Kd renaming R_alloc → qb, R_drewN → qc, R_drew → qd, R_reads' → qe, R_mono → qg
open Go.Proofs.YtcdkbdkanjifeaaW.PrintWords.Aside0 renaming mk → qm
attribute [local go_sem] max2_int min2_int max_two min_two max_three min_three max_four min_four 
set_option linter.unusedVariables false
set_option linter.unusedSimpArgs false
def impl_tagOf.f (k:Nat) (l0_0:List Int) (l0_1:List Int) (l0_2:List Int) (l0_3:List Int) (l1:List Int) (l2:List Int) (l3:List Int):Option (List Int):=(some (([]:List Int):List Int)).bind fun y543=>(if y543.length+l1.length<140737488355328 then ((some (y543 ++ l1:List Int)).bind fun y546=>((some (([255,255,255,255]:List Int):List Int)).bind fun y549=>(if y546.length+y549.length<140737488355328 then ((impl_fixed.f k (y546 ++ y549) (l2.length:Int) 4).bind fun t555=>(if t555.length+l2.length<140737488355328 then ((some (t555 ++ l2:List Int)).bind fun y558=>(if y558.length+l3.length<140737488355328 then ((impl_digest.f k l0_1 (y558 ++ l3)).bind fun t564=>(if 8≤(t564.length:Int) then (some (t564.take (8:Int).toNat)) else (none))) else (none))) else (none))) else (none)))) else (none))
def impl_tagOf.T5:Bool×List (List Nat×List Nat):=(true,[([],[]),([0],[0]),([],[]),([],[]),([2,3],[2,3]),([1,4,4],[1,4]),([5],[5]),([6,5,0,1,2,3,4,5,6],[6])])
def impl_tagOf.B5:List Nat:=[0,1,0,0,12,31,63,127]
theorem impl_tagOf.tab5:rtab .any (opsOf Try.f70 5)=impl_tagOf.T5:=by kernel_rfl
theorem impl_tagOf.bits5:waitsOk impl_tagOf.T5.2 impl_tagOf.B5=true:=by kernel_rfl
set_option maxHeartbeats 8000000 in
set_option maxRecDepth 100000 in
theorem impl_tagOf.calls (k:Nat) (A0_0:Option Addr) (c0_0:Nat) (l0_0:List Int) (A0_1:Option Addr) (c0_1:Nat) (l0_1:List Int) (A0_2:Option Addr) (c0_2:Nat) (l0_2:List Int) (A0_3:Option Addr) (c0_3:Nat) (l0_3:List Int) (A1:Option Addr) (c1:Nat) (l1:List Int) (A2:Option Addr) (c2:Nat) (l2:List Int) (A3:Option Addr) (c3:Nat) (l3:List Int) (r:List Int) (w:World) (hr0_0:Kd.C (Kd.int .u8) w A0_0 l0_0.length l0_0) (hc0_0:l0_0.length≤c0_0) (hr0_1:Kd.C (Kd.int .u8) w A0_1 l0_1.length l0_1) (hc0_1:l0_1.length≤c0_1) (hr0_2:Kd.C (Kd.int .u8) w A0_2 l0_2.length l0_2) (hc0_2:l0_2.length≤c0_2) (hr0_3:Kd.C (Kd.int .u8) w A0_3 l0_3.length l0_3) (hc0_3:l0_3.length≤c0_3) (hr1:Kd.C (Kd.int .u8) w A1 l1.length l1) (hc1:l1.length≤c1) (hr2:Kd.C (Kd.int .u8) w A2 l2.length l2) (hc2:l2.length≤c2) (hr3:Kd.C (Kd.int .u8) w A3 l3.length l3) (hc3:l3.length≤c3) (h:impl_tagOf.f k l0_0 l0_1 l0_2 l0_3 l1 l2 l3=some r) :
  Calls Try.prog 70 #[.agg #[.slice A0_0 l0_0.length c0_0, .slice A0_1 l0_1.length c0_1, .slice A0_2 l0_2.length c0_2, .slice A0_3 l0_3.length c0_3], .slice A1 l1.length c1, .slice A2 l2.length c2, .slice A3 l3.length c3] w fun e w' =>∃ v0_:Value,e = .returned (v0_)∧Kd.R (Kd.int .u8) 5 w' w.heap.size (fun _=>True) v0_ r∧Below w.heap.size w w' :=by
 have hu33:=Try.underlying33
 have HR0_0:=qm hr0_0
 have HC0_0:=qm hc0_0
 clear hr0_0 hc0_0
 have HR0_1:=qm hr0_1
 have HC0_1:=qm hc0_1
 clear hr0_1 hc0_1
 have HR0_2:=qm hr0_2
 have HC0_2:=qm hc0_2
 clear hr0_2 hc0_2
 have HR0_3:=qm hr0_3
 have HC0_3:=qm hc0_3
 clear hr0_3 hc0_3
 have HR1:=qm hr1
 have HC1:=qm hc1
 clear hr1 hc1
 have HR2:=qm hr2
 have HC2:=qm hc2
 clear hr2 hc2
 have HR3:=qm hr3
 have HC3:=qm hc3
 clear hr3 hc3
 have HB:=qm (Below.refl w.heap.size w)
 have H:((some (([]:List Int):List Int)).bind fun y543=>(if y543.length+l1.length<140737488355328 then ((some (y543 ++ l1:List Int)).bind fun y546=>((some (([255,255,255,255]:List Int):List Int)).bind fun y549=>(if y546.length+y549.length<140737488355328 then ((impl_fixed.f k (y546 ++ y549) (l2.length:Int) 4).bind fun t555=>(if t555.length+l2.length<140737488355328 then ((some (t555 ++ l2:List Int)).bind fun y558=>(if y558.length+l3.length<140737488355328 then ((impl_digest.f k l0_1 (y558 ++ l3)).bind fun t564=>(if 8≤(t564.length:Int) then (some (t564.take (8:Int).toNat)) else (none))) else (none))) else (none))) else (none)))) else (none)))=some r:=h
 clear h
 obtain ⟨y543,hy543⟩:∃ y_:List Int,y_=(([]:List Int)):=⟨_,rfl⟩
 replace H:(if y543.length+l1.length<140737488355328 then ((some (y543 ++ l1:List Int)).bind fun y546=>((some (([255,255,255,255]:List Int):List Int)).bind fun y549=>(if y546.length+y549.length<140737488355328 then ((impl_fixed.f k (y546 ++ y549) (l2.length:Int) 4).bind fun t555=>(if t555.length+l2.length<140737488355328 then ((some (t555 ++ l2:List Int)).bind fun y558=>(if y558.length+l3.length<140737488355328 then ((impl_digest.f k l0_1 (y558 ++ l3)).bind fun t564=>(if 8≤(t564.length:Int) then (some (t564.take (8:Int).toNat)) else (none))) else (none))) else (none))) else (none)))) else (none))=some r:=by first|(rw [hy543];with_reducible exact H)|(have H2_:=(Option.bind_some _ _).symm.trans H;rw [hy543];with_reducible exact H2_)|(have H2_:=(Option.bind_some _ _).symm.trans H;with_reducible exact H2_)|with_reducible exact H|(rw [hy543];exact H)|exact H
 have Ny543:=qm hy543
 clear hy543
 by_cases c5:y543.length+l1.length<140737488355328
 ·rw [if_pos c5] at H
  have LMc5:=qm c5
  clear c5
  obtain ⟨y546,hy546⟩:∃ y_:List Int,y_=(y543 ++ l1):=⟨_,rfl⟩
  replace H:((some (([255,255,255,255]:List Int):List Int)).bind fun y549=>(if y546.length+y549.length<140737488355328 then ((impl_fixed.f k (y546 ++ y549) (l2.length:Int) 4).bind fun t555=>(if t555.length+l2.length<140737488355328 then ((some (t555 ++ l2:List Int)).bind fun y558=>(if y558.length+l3.length<140737488355328 then ((impl_digest.f k l0_1 (y558 ++ l3)).bind fun t564=>(if 8≤(t564.length:Int) then (some (t564.take (8:Int).toNat)) else (none))) else (none))) else (none))) else (none)))=some r:=by first|(rw [hy546];with_reducible exact H)|(have H2_:=(Option.bind_some _ _).symm.trans H;rw [hy546];with_reducible exact H2_)|(have H2_:=(Option.bind_some _ _).symm.trans H;with_reducible exact H2_)|with_reducible exact H|(rw [hy546];exact H)|exact H
  have Ny546:=qm hy546
  clear hy546
  obtain ⟨y549,hy549⟩:∃ y_:List Int,y_=(([255,255,255,255]:List Int)):=⟨_,rfl⟩
  replace H:(if y546.length+y549.length<140737488355328 then ((impl_fixed.f k (y546 ++ y549) (l2.length:Int) 4).bind fun t555=>(if t555.length+l2.length<140737488355328 then ((some (t555 ++ l2:List Int)).bind fun y558=>(if y558.length+l3.length<140737488355328 then ((impl_digest.f k l0_1 (y558 ++ l3)).bind fun t564=>(if 8≤(t564.length:Int) then (some (t564.take (8:Int).toNat)) else (none))) else (none))) else (none))) else (none))=some r:=by first|(rw [hy549];with_reducible exact H)|(have H2_:=(Option.bind_some _ _).symm.trans H;rw [hy549];with_reducible exact H2_)|(have H2_:=(Option.bind_some _ _).symm.trans H;with_reducible exact H2_)|with_reducible exact H|(rw [hy549];exact H)|exact H
  have Ny549:=qm hy549
  clear hy549
  by_cases c6:y546.length+y549.length<140737488355328
  ·rw [if_pos c6] at H
   have LMc6:=qm c6
   clear c6
   obtain ⟨y552,hy552⟩:∃ y_:List Int,y_=(y546 ++ y549):=⟨_,rfl⟩
   replace H:((impl_fixed.f k y552 (l2.length:Int) 4).bind fun t555=>(if t555.length+l2.length<140737488355328 then ((some (t555 ++ l2:List Int)).bind fun y558=>(if y558.length+l3.length<140737488355328 then ((impl_digest.f k l0_1 (y558 ++ l3)).bind fun t564=>(if 8≤(t564.length:Int) then (some (t564.take (8:Int).toNat)) else (none))) else (none))) else (none)))=some r:=by first|(rw [hy552];with_reducible exact H)|(have H2_:=(Option.bind_some _ _).symm.trans H;rw [hy552];with_reducible exact H2_)|(have H2_:=(Option.bind_some _ _).symm.trans H;with_reducible exact H2_)|with_reducible exact H|(rw [hy552];exact H)|exact H
   have Ny552:=qm hy552
   clear hy552
   replace H:=Option.bind_eq_some_iff.mp H
   obtain ⟨t555,A70,H⟩:=H
   try dsimp only at H
   have A7:=qm A70
   clear A70
   by_cases c8:t555.length+l2.length<140737488355328
   ·rw [if_pos c8] at H
    have LMc8:=qm c8
    clear c8
    obtain ⟨y558,hy558⟩:∃ y_:List Int,y_=(t555 ++ l2):=⟨_,rfl⟩
    replace H:(if y558.length+l3.length<140737488355328 then ((impl_digest.f k l0_1 (y558 ++ l3)).bind fun t564=>(if 8≤(t564.length:Int) then (some (t564.take (8:Int).toNat)) else (none))) else (none))=some r:=by first|(rw [hy558];with_reducible exact H)|(have H2_:=(Option.bind_some _ _).symm.trans H;rw [hy558];with_reducible exact H2_)|(have H2_:=(Option.bind_some _ _).symm.trans H;with_reducible exact H2_)|with_reducible exact H|(rw [hy558];exact H)|exact H
    have Ny558:=qm hy558
    clear hy558
    by_cases c9:y558.length+l3.length<140737488355328
    ·rw [if_pos c9] at H
     have LMc9:=qm c9
     clear c9
     obtain ⟨y561,hy561⟩:∃ y_:List Int,y_=(y558 ++ l3):=⟨_,rfl⟩
     replace H:((impl_digest.f k l0_1 y561).bind fun t564=>(if 8≤(t564.length:Int) then (some (t564.take (8:Int).toNat)) else (none)))=some r:=by first|(rw [hy561];with_reducible exact H)|(have H2_:=(Option.bind_some _ _).symm.trans H;rw [hy561];with_reducible exact H2_)|(have H2_:=(Option.bind_some _ _).symm.trans H;with_reducible exact H2_)|with_reducible exact H|(rw [hy561];exact H)|exact H
     have Ny561:=qm hy561
     clear hy561
     replace H:=Option.bind_eq_some_iff.mp H
     obtain ⟨t564,A100,H⟩:=H
     try dsimp only at H
     have A10:=qm A100
     clear A100
     by_cases c11:8≤(t564.length:Int)
     ·rw [if_pos c11] at H
      have c11b0:=eq_true c11
      have c11b1:decide (8≤(t564.length:Int))=true:=decide_eq_true c11
      clear c11
      obtain ⟨y567,hy567⟩:∃ y_:List Int,y_=(t564.take (8:Int).toNat):=⟨_,rfl⟩
      replace H:(some y567)=some r:=by first|(rw [hy567];with_reducible exact H)|(have H2_:=(Option.bind_some _ _).symm.trans H;rw [hy567];with_reducible exact H2_)|(have H2_:=(Option.bind_some _ _).symm.trans H;with_reducible exact H2_)|with_reducible exact H|(rw [hy567];exact H)|exact H
      have Ny567:=qm hy567
      clear hy567
      obtain rfl:=Option.some.inj H
      go_enter Try.func70,Try.ntmps70
      try go_wp2_with (first|((with_reducible refine gate_dst (N:=4) rfl ?_);refine box_event (by rfl) (N:=4) (by rfl) (cs:=#[.slice A0_0 l0_0.length c0_0, .slice A0_1 l0_1.length c0_1, .slice A0_2 l0_2.length c0_2, .slice A0_3 l0_3.length c0_3]) (t:=33) (by first|(go_simp;done)|(go_simp;rfl)) ?_;intro gb542 hg w12 hbox hb;have _:=qm (qt HB.out hb);have _:=qm (hbox);have _:=qm ((gs hg (qs HB.out)));have _:=qm ((gs hg (qs HB.out)));clear HB;rename_i HB BK542 GW542 GE542;clear hb hbox hg)|((with_reducible refine gate_dst (N:=10) rfl ?_);refine Kd.R_lit (Kd.int .u8) _ 5 ?hg (N:=10) ?hd (xs:=([]:List Int)) (inner:=[]) (ok:=fun _=>True) (okp:=fun _=>True) ?hr ?hp (fun _ hk=>hk) trivial (Below.refl _ _) (Nat.le_refl _) (by simp) ?_;(case hd=>rfl);(case hg=>rfl);(case hr=>first|(go_simp;done)|(go_simp;rfl));(case hp=>exact (Reps.none _ _));intro v544 w13 ho14 hb hg_ hnew_;clear hg_ hnew_;(first|rw [←Ny543.out] at ho14|(simp only [Int.reduceToNat] at ho14;rw [←Ny543.out] at ho14));have _:=qm (Kd.R_lower ho14 (qs HB.out));have _:=qm (qv (g:=gb542) BK542.out hb);have _:=qm (qt HB.out hb);clear BK542 HB;rename_i HO545 BK542 HB;clear hb ho14)|((with_reducible refine gate_builtin (b:= .append) (xs:=#[.tmp 10, .tmp 11]) rfl ?_);at_builtin;refine Kd.R_append_rows (Kd.int .u8) (w0:=w) w.heap.size rfl (.tmp 10) (.tmp 11) 22 5 (.int .u8 0) 1 rfl Try.underlying22 info5 rfl (by decide) (by omega) v544 y543 l1 _ _ _ (fun _=>True) (fun _=>False) rfl rfl ?aO ?aR (fun _ _ h=>h) (fun _ h=>h.elim) ?aF ?aB ?aS ?aL ?_;(case aR=>exact cb (Kd.C_below HR1.out HB.out));(case aB=>exact HB.out);(case aF=>exact (fun _ _=>trivial));(case aO=>exact HO545.out);(case aS=>exact (qs HB.out));(case aL=>have:=LMc5.out;omega);intro v547 w15 ho hb hg hat;rw [←Ny546.out] at ho;have _:=qm (blk_grown (g:=gb542) BK542.out hg (Kd.R_ne HO545.out BK542.out (by decide)));have _:=qm (hb);have _:=qm (ho);clear BK542 HB HO545;rename_i BK542 HB HO548;clear ho hb hg hat)|((with_reducible refine gate_dst (N:=14) rfl ?_);refine Kd.R_lit (Kd.int .u8) _ 5 ?hg (N:=14) ?hd (xs:=([255,255,255,255]:List Int)) (inner:=[.int .u8 255, .int .u8 255, .int .u8 255, .int .u8 255]) (ok:=fun _=>True) (okp:=fun _=>True) ?hr ?hp (fun _ hk=>hk) trivial (Below.refl _ _) (Nat.le_refl _) (by simp) ?_;(case hd=>rfl);(case hg=>rfl);(case hr=>first|(go_simp;done)|(go_simp;rfl));(case hp=>exact (Reps.one (show Kd.M (Kd.int .u8) _ _ _ 255 [.int .u8 255] from rfl) (Reps.one (show Kd.M (Kd.int .u8) _ _ _ 255 [.int .u8 255] from rfl) (Reps.one (show Kd.M (Kd.int .u8) _ _ _ 255 [.int .u8 255] from rfl) (Reps.one (show Kd.M (Kd.int .u8) _ _ _ 255 [.int .u8 255] from rfl) (Reps.none _ _))))));intro v550 w16 ho17 hb hg_ hnew_;clear hg_ hnew_;(first|rw [←Ny549.out] at ho17|(simp only [Int.reduceToNat] at ho17;rw [←Ny549.out] at ho17));have _:=qm (Kd.R_elder' HO548.out (Kd.R_base ho17) hb);have _:=qm (Kd.R_lower (nw ho17 HO548.out) (qs HB.out));have _:=qm (qv (g:=gb542) BK542.out hb);have _:=qm (qt HB.out hb);clear HO548 BK542 HB;rename_i HO548 HO551 BK542 HB;clear hb ho17;obtain ⟨Ao19,co19,eo19⟩:=Kd.R_slice HO551.out;subst eo19)|((with_reducible refine gate_builtin (b:= .append) (xs:=#[.tmp 13, .tmp 14]) rfl ?_);at_builtin;refine Kd.R_append_rows (Kd.int .u8) (w0:=w) w.heap.size rfl (.tmp 13) (.tmp 14) 22 5 (.int .u8 0) 1 rfl Try.underlying22 info5 rfl (by decide) (by omega) v547 y546 y549 _ _ _ (fun k_=>ob k_ (.slice Ao19 y549.length co19)) (fun _=>False) rfl rfl ?aO ?aR (fun _ _ h=>h) (fun _ h=>h.elim) ?aF ?aB ?aS ?aL ?_;(case aR=>exact cb ((qe HO551.out).2.2));(case aB=>exact HB.out);(case aF=>exact (fun k_ hk=>Kd.fresh' (Kd.R_lt HO551.out) k_ hk));(case aO=>exact (rb (qg HO548.out (fun _ hk=>hk.2))));(case aS=>exact (qs HB.out));(case aL=>have:=LMc6.out;omega);intro v553 w18 ho hb hg hat;rw [←Ny552.out] at ho;have _:=qm (blk_grown (g:=gb542) BK542.out hg (Kd.R_ne HO548.out BK542.out (by decide)));have _:=qm (Kd.R_after (ok:=(fun _=>True)) HO551.out hg hat);have _:=qm (hb);have _:=qm (ho);clear BK542 HO551 HB HO548;rename_i BK542 HO551 HB HO554;clear ho hb hg hat;obtain ⟨Ao20,co20,eo20⟩:=Kd.R_slice HO554.out;subst eo20)|((with_reducible refine gate_callee (f:=80) rfl ?_);refine goesL_ (some 19) rfl rfl Try.func80 (by kernel_rfl) rfl #[.slice Ao20 y552.length co20, .int .i64 (l2.length:Int), .int .i64 4] rfl (by (try simp only [m1,m2,m3]);first|done|rfl) ?_;(with_reducible refine (impl_fixed.calls k (fun k_=>some k_=(.slice Ao20 y552.length co20:Value).ownBlock) (.slice Ao20 y552.length co20) y552 (l2.length:Int) 4 t555 w _ ?side1 ?side2 A7.out).mono ?_);(case side1=>repeat (first|(with_reducible first|exact HB.out|apply below_alloc|apply qi|apply qj|refine below_set ?_ GE542.out)|exact HB.out));(case side2=>exact Kd.R_tight rfl HO554.out);rintro e w21 ⟨v556,rfl,ho0,hb,hkp⟩;refine ⟨_,rfl,?_⟩;have _:=qm (blk_kept BK542.out hkp (fun hs_=>(fun e_=>(Kd.R_ne HO554.out BK542.out (by decide)) e_) hs_));have _:=qm (qg (ok' :=fun k_=>ob k_ v556) (Kd.R_keptB (HO551.out) hkp (fun k_ hk_ hs_=>(hk_.2) hs_)) (fun k_ hk_=>fun e_=>Or.elim (ho0.1 k_ e_.symm) (fun hs_=>hk_.2.1 hs_) (fun hn_=>Nat.not_le.2 hk_.2.2 hn_)));have _:=qm (qg (ok' :=fun k_=>ob k_ (.slice Ao19 y549.length co19)) ho0 (fun k_ hk_=>Or.elim hk_ (fun hs_=>fun e_=>(((HO551.out).1 k_ e_.symm).2) hs_) (fun hn_=>(Kd.fresh' (Kd.R_lt HO551.out) k_ hn_))));have _:=qm (hb);clear BK542 HO551 HB HO554;rename_i BK542 HO551 HO557 HB)|((with_reducible refine gate_builtin (b:= .append) (xs:=#[.tmp 20, .tmp 21]) rfl ?_);at_builtin;refine Kd.R_append_rows (Kd.int .u8) (w0:=w) w.heap.size rfl (.tmp 20) (.tmp 21) 22 5 (.int .u8 0) 1 rfl Try.underlying22 info5 rfl (by decide) (by omega) v556 t555 l2 _ _ _ (fun k_=>ob k_ (.slice Ao19 y549.length co19)) (fun _=>False) rfl rfl ?aO ?aR (fun _ _ h=>h) (fun _ h=>h.elim) ?aF ?aB ?aS ?aL ?_;(case aR=>exact cb (Kd.C_below HR2.out HB.out));(case aB=>exact HB.out);(case aF=>exact (fun k_ hk=>Kd.fresh' (Kd.R_lt HO551.out) k_ hk));(case aO=>exact HO557.out);(case aS=>exact (qs HB.out));(case aL=>have:=LMc8.out;omega);intro v559 w22 ho hb hg hat;rw [←Ny558.out] at ho;have _:=qm (blk_grown (g:=gb542) BK542.out hg (Kd.R_ne HO557.out BK542.out (by decide)));have _:=qm (Kd.R_after (ok:=(fun _=>True)) (rb (qg HO551.out (fun _ hk=>⟨trivial,hk⟩))) hg hat);have _:=qm (hb);have _:=qm (ho);clear BK542 HO551 HB HO557;rename_i BK542 HO551 HB HO560;clear ho hb hg hat))
      have _:=qm (qd HO551.out)
      have _:=qm (qd HO560.out)
      have _:=qm (blk_drew BK542.out)
      have _:=qm (qj HB.out)
      clear HO551 HO560 BK542 HB
      rename_i HO551 HO560 BK542 HB
      refine start_ (n:=8) (S:=fun w' =>w'.cell? ⟨gb542,0,none⟩=some (.slice A0_0 l0_0.length c0_0)∧w'.cell? ⟨gb542,1,none⟩=some (.slice A0_1 l0_1.length c0_1)∧w'.cell? ⟨gb542,2,none⟩=some (.slice A0_2 l0_2.length c0_2)∧w'.cell? ⟨gb542,3,none⟩=some (.slice A0_3 l0_3.length c0_3)) (ds:=[]) (bm 0 8) (by kernel_rfl) rfl rfl ⟨(qu BK542.out 0).trans rfl,(qu BK542.out 1).trans rfl,(qu BK542.out 2).trans rfl,(qu BK542.out 3).trans rfl⟩ (fun hHeld=>?_);refine with_tabW impl_tagOf.tab5 impl_tagOf.bits5 (fun HT_ HW_=>?_)
      generalize w22.drew=w23 at HO551 HO560 BK542 HB hHeld ⊢
      refine pu 0 23 (bm 1 8) HT_ (h:=⟨_,by intro w';go_simp;with_reducible rfl,_,by simp only [Act.put,s1,s2,s3,i64_w,i32_w];rfl,?_⟩)
      refine pu 2 25 (bb 5 8) HT_ (h:=⟨_,by intro w';go_simp;with_reducible rfl,_,by simp only [Act.put,s1,s2,s3,i64_w,i32_w];rfl,?_⟩)
      refine pu 3 26 (bb 13 8) HT_ (h:=⟨_,by intro w';go_simp;with_reducible rfl,_,by simp only [Act.put,s1,s2,s3,i64_w,i32_w];rfl,?_⟩)
      refine tk 1 24 (bm 4 8) HT_ HW_ (hS:=hHeld) (h:=⟨_,by rintro w' ⟨s0,s1,s2,s3⟩;go_simp;with_reducible rfl,_,by simp only [Act.put,s1,s2,s3,i64_w,i32_w];rfl,?_⟩)
      refine one_ (i:=4) (N:=some 27) (bm 5 8) rfl rfl (one_of HT_.out (by kernel_rfl)) (by decide) (fun K hK=>?_)
      refine Kd.R_append_rows_step (Kd.int .u8) (w0:=w) w.heap.size (by rfl) (.tmp 25) (.tmp 26) 22 5 (.int .u8 0) 1 rfl Try.underlying22 info5 rfl (by decide) (by omega) v559 y558 l3 _ _ _ (fun k_=>ob k_ (.slice Ao19 y549.length co19)) (fun _=>False) rfl rfl ?aO ?aR (fun _ _ h=>h) (fun _ h=>h.elim) ?aF ?aB ?aS ?aL ?_
      (case aR=>exact cb (Kd.C_below HR3.out HB.out))
      (case aB=>exact HB.out)
      (case aF=>exact (fun k_ hk=>Kd.fresh' (Kd.R_lt HO551.out) k_ hk))
      (case aO=>exact HO560.out)
      (case aS=>exact (qs HB.out))
      (case aL=>have:=LMc9.out;omega)
      intro v562 w24 ho hb hg hat
      rw [←Ny561.out] at ho
      have _:=qm (blk_grown (g:=gb542) BK542.out hg (Kd.R_ne HO560.out BK542.out (by decide)))
      have _:=qm (Kd.R_after (ok:=(fun _=>True)) HO551.out hg hat)
      have _:=qm (hb)
      have _:=qm (ho)
      clear BK542 HO551 HB HO560
      rename_i BK542 HO551 HB HO563
      clear ho hb hg hat
      obtain ⟨Ao25,co25,eo25⟩:=Kd.R_slice HO563.out
      (first|subst eo25|(injection eo25 with f1_ f2_ f3_;have f4_:=f1_.symm;have f5_:=f3_.symm;clear f1_ f2_ f3_;subst f4_;subst f5_))
      refine hK.out _ _ ⟨(qu BK542.out 0).trans rfl,(qu BK542.out 1).trans rfl,(qu BK542.out 2).trans rfl,(qu BK542.out 3).trans rfl⟩ (fun hHeld=>?_)
      clear hK K
      refine norm_ (a' :=?_) ?_ ?_
      rotate_left
      ·show Act.put _ (some 27) _=_
       simp only [Act.put,s1,s2,s3,i64_w,i32_w]
       rfl
      refine one_ (i:=5) (N:=some 28) (bm 6 8) rfl rfl (one_of HT_.out (by kernel_rfl)) (by decide) (fun K hK=>?_)
      refine goes_ Try.func51 (by kernel_rfl) rfl #[.slice A0_1 l0_1.length c0_1, .slice Ao25 y561.length co25] (by rfl) rfl rfl (by (try simp only [m1,m2,m3]);first|done|rfl) ?_
      with_reducible refine (impl_digest.calls k _ _ l0_1 _ _ y561 t564 _ ?side1 ?side2 ?side3 ?side4 A10.out).mono ?_
      (case side1=>exact cb (Kd.C_below HR0_1.out HB.out))
      (case side2=>exact HC0_1.out)
      (case side3=>exact cb ((qe HO563.out).2.2))
      (case side4=>exact (qe HO563.out).2.1)
      rintro e w26 ⟨v565,rfl,ho0,hb⟩
      refine ⟨_,rfl,?_⟩
      have _:=qm (Kd.R_elder' HO551.out (Kd.R_base ho0) hb)
      have _:=qm (Kd.R_elder' HO563.out (Kd.R_base ho0) hb)
      have _:=qm (Kd.R_lower (nw (nw ho0 HO551.out) HO563.out) (qs HB.out))
      have _:=qm (qv (g:=gb542) BK542.out hb)
      have _:=qm (qt HB.out hb)
      clear HO551 HO563 BK542 HB
      rename_i HO551 HO563 HO566 BK542 HB
      (try clear hb)
      (try clear hb2)
      (try clear hk)
      (try clear hi)
      (try clear ho0)
      obtain ⟨Ao27,co27,eo27⟩:=Kd.R_slice HO566.out
      (first|subst eo27|(injection eo27 with f1_ f2_ f3_;have f4_:=f1_.symm;have f5_:=f3_.symm;clear f1_ f2_ f3_;subst f4_;subst f5_))
      have q28:(8:Int)≤((t564.length:Int):Int):=of_decide_eq_true (by assumption)
      obtain ⟨i028,hi028,_,hsz28,_⟩:=info_parts info5
      have hcut28:=cut_to (P:=Try.prog) 22 5 .i64 Try.underlying22 hi028 Ao27 t564.length co27 8 (by omega) q28 (qe HO566.out).2.1
      have hr28:=Kd.R_take (m:=(8:Int).toNat) HO566.out (by omega)
      have hy28:y567.length=(8:Int).toNat:=(by rw [Ny567.out,List.length_take];omega)
      rw [←Ny567.out] at hr28
      rw [←hy28] at hr28 hcut28
      clear hy28 hi028 hsz28 HO566
      have HO569:=qm hr28
      clear hr28
      replace q28:=eq_true q28
      refine hK.out _ _ ⟨(qu BK542.out 0).trans rfl,(qu BK542.out 1).trans rfl,(qu BK542.out 2).trans rfl,(qu BK542.out 3).trans rfl⟩ (fun hHeld=>?_)
      clear hK K
      refine norm_ (a' :=?_) ?_ ?_
      rotate_left
      ·show Act.put _ (some 28) _=_
       simp only [Act.put,s1,s2,s3,i64_w,i32_w]
       rfl
      refine pu 6 29 (bm 7 8) HT_ (h:=⟨_,by intro w';go_simp;with_reducible rfl,_,by simp only [Act.put,s1,s2,s3,i64_w,i32_w];rfl,?_⟩)
      refine pu 7 8 (bm 8 8) HT_ (h:=⟨_,by intro w';go_simp;with_reducible rfl,_,by simp only [Act.put,s1,s2,s3,i64_w,i32_w];rfl,?_⟩)
      refine done_ (done_of HT_.out (by kernel_rfl)) ?_
      try go_wp2
      go_ret
      exact ⟨_,by first|rfl|(simp <;> rfl)|(simp [*] <;> rfl),by (with_reducible repeat (first|apply qb|apply qc|apply qd));exact qg HO569.out (fun _ hk=>trivial),HB.out⟩
     rw [if_neg c11] at H
     exact absurd H (by simp)
    rw [if_neg c9] at H
    exact absurd H (by simp)
   rw [if_neg c8] at H
   exact absurd H (by simp)
  rw [if_neg c6] at H
  exact absurd H (by simp)
 rw [if_neg c5] at H
 exact absurd H (by simp)
def impl_Seal.j0:Nat→Int→List Int→List Int→Bool→List Int→List Int→List Int→List Int→Option (List Int×Int)
 |0,_,_,_,_,_,_,_,_=>none
 |k+1,x1,x2,x3,x19,x571000,x571001,x571002,x571003=>if x19=true then (some (([]:List Int),1)) else (if (wrap64 ((x2.length:Int)+(x3.length:Int)))>1500 then (some (([]:List Int),4)) else ((impl_nonceOf.f k x571000 x571001 x571002 x571003 x1).bind fun t573=>((impl_streamed.f k x571000 x571001 x571002 x571003 t573 x3).bind fun t576=>((impl_tagOf.f k x571000 x571001 x571002 x571003 t573 x2 t576).bind fun t579=>(if t576.length+t579.length<140737488355328 then (some ((t576 ++ t579),0)) else (none))))))
def impl_Seal.f (k:Nat) (l0_0:List Int) (l0_1:List Int) (l0_2:List Int) (l0_3:List Int) (a1:Int) (l2:List Int) (l3:List Int):Option (List Int×Int):=(impl_keysOK.f l0_0 l0_1 l0_2 l0_3).bind fun t571=>(if t571=true then ((impl_inVar.f a1).bind fun t572=>(impl_Seal.j0 k a1 l2 l3 (!t572) l0_0 l0_1 l0_2 l0_3)) else (impl_Seal.j0 k a1 l2 l3 true l0_0 l0_1 l0_2 l0_3))
set_option maxHeartbeats 8000000 in
set_option maxRecDepth 100000 in
theorem impl_Seal.calls (k:Nat) (A0_0:Option Addr) (c0_0:Nat) (l0_0:List Int) (A0_1:Option Addr) (c0_1:Nat) (l0_1:List Int) (A0_2:Option Addr) (c0_2:Nat) (l0_2:List Int) (A0_3:Option Addr) (c0_3:Nat) (l0_3:List Int) (a1:Int) (A2:Option Addr) (c2:Nat) (l2:List Int) (A3:Option Addr) (c3:Nat) (l3:List Int) (r1:List Int) (r2:Int) (w:World) (hr0_0:Kd.C (Kd.int .u8) w A0_0 l0_0.length l0_0) (hc0_0:l0_0.length≤c0_0) (hr0_1:Kd.C (Kd.int .u8) w A0_1 l0_1.length l0_1) (hc0_1:l0_1.length≤c0_1) (hr0_2:Kd.C (Kd.int .u8) w A0_2 l0_2.length l0_2) (hc0_2:l0_2.length≤c0_2) (hr0_3:Kd.C (Kd.int .u8) w A0_3 l0_3.length l0_3) (hc0_3:l0_3.length≤c0_3) (hr2:Kd.C (Kd.int .u8) w A2 l2.length l2) (hc2:l2.length≤c2) (hr3:Kd.C (Kd.int .u8) w A3 l3.length l3) (hc3:l3.length≤c3) (h:impl_Seal.f k l0_0 l0_1 l0_2 l0_3 a1 l2 l3=some (r1,r2)) :
  Calls Try.prog 40 #[.agg #[.slice A0_0 l0_0.length c0_0, .slice A0_1 l0_1.length c0_1, .slice A0_2 l0_2.length c0_2, .slice A0_3 l0_3.length c0_3], .int .i64 a1, .slice A2 l2.length c2, .slice A3 l3.length c3] w fun e w' =>∃ v0_:Value,e = .returned (.tuple #[v0_, .int .i64 r2])∧Kd.R (Kd.int .u8) 5 w' w.heap.size (fun _=>True) v0_ r1∧Below w.heap.size w w' :=by
 have hu33:=Try.underlying33
 have HR0_0:=qm hr0_0
 have HC0_0:=qm hc0_0
 clear hr0_0 hc0_0
 have HR0_1:=qm hr0_1
 have HC0_1:=qm hc0_1
 clear hr0_1 hc0_1
 have HR0_2:=qm hr0_2
 have HC0_2:=qm hc0_2
 clear hr0_2 hc0_2
 have HR0_3:=qm hr0_3
 have HC0_3:=qm hc0_3
 clear hr0_3 hc0_3
 have HR2:=qm hr2
 have HC2:=qm hc2
 clear hr2 hc2
 have HR3:=qm hr3
 have HC3:=qm hc3
 clear hr3 hc3
 have HB:=qm (Below.refl w.heap.size w)
 have H:((impl_keysOK.f l0_0 l0_1 l0_2 l0_3).bind fun t571=>(if t571=true then ((impl_inVar.f a1).bind fun t572=>(impl_Seal.j0 k a1 l2 l3 (!t572) l0_0 l0_1 l0_2 l0_3)) else (impl_Seal.j0 k a1 l2 l3 true l0_0 l0_1 l0_2 l0_3)))=some (r1,r2):=h
 clear h
 have HC5:=qm H
 clear H
 go_enter Try.func40,Try.ntmps40
 go_upto_region 1 with (first|((with_reducible refine gate_dst (N:=4) rfl ?_);refine box_event (by rfl) (N:=4) (by rfl) (cs:=#[.slice A0_0 l0_0.length c0_0, .slice A0_1 l0_1.length c0_1, .slice A0_2 l0_2.length c0_2, .slice A0_3 l0_3.length c0_3]) (t:=33) (by first|(go_simp;done)|(go_simp;rfl)) ?_;intro gb570 hg w6 hbox hb;have _:=qm (qt HB.out hb);have _:=qm (hbox);have _:=qm ((gs hg (qs HB.out)));have _:=qm ((gs hg (qs HB.out)));clear HB;rename_i HB BK570 GW570 GE570;clear hb hbox hg))
 (try simp only [Act.put,s1,s2,s3])
 go_cut [19] (fun v19 wc=>∃ (kq:Nat) (x19_4:Bool),v19 = .bool x19_4∧Aside0 (impl_Seal.j0 kq a1 l2 l3 x19_4 l0_0 l0_1 l0_2 l0_3=some (r1,r2))∧Aside0 (kq≤k)∧Aside0 (wc.heap[gb570]? =some (.cells #[(.slice A0_0 l0_0.length c0_0),(.slice A0_1 l0_1.length c0_1),(.slice A0_2 l0_2.length c0_2),(.slice A0_3 l0_3.length c0_3)] 33 (0,0)))∧Aside0 (Below w.heap.size w wc))
 case first=>
  have H:=HC5.out
  clear HC5
  replace H:=Option.bind_eq_some_iff.mp H
  obtain ⟨t571,A70,H⟩:=H
  try dsimp only at H
  have A7:=qm A70
  clear A70
  by_cases c8:t571=true
  ·subst c8
   rw [if_pos rfl] at H
   replace H:=Option.bind_eq_some_iff.mp H
   obtain ⟨t572,A90,H⟩:=H
   try dsimp only at H
   have A9:=qm A90
   clear A90
   have H' :=qm H
   clear H
   obtain ⟨_,_,_,_,_,_,_,_⟩:=fc4 BK570.out
   go_wp2_with (first|((with_reducible refine gate_callee (f:=56) rfl ?_);refine goesL_ (some 13) rfl rfl Try.func56 (by kernel_rfl) rfl #[.agg #[.slice A0_0 l0_0.length c0_0, .slice A0_1 l0_1.length c0_1, .slice A0_2 l0_2.length c0_2, .slice A0_3 l0_3.length c0_3]] rfl (by (try simp only [m1,m2,m3]);first|done|rfl) ?_;(with_reducible refine (impl_keysOK.calls _ _ l0_0 _ _ l0_1 _ _ l0_2 _ _ l0_3 true _ ?side1 ?side2 ?side3 ?side4 ?side5 ?side6 ?side7 ?side8 A7.out).mono ?_);(case side1=>exact cb (Kd.C_below HR0_0.out HB.out));(case side2=>exact HC0_0.out);(case side3=>exact cb (Kd.C_below HR0_1.out HB.out));(case side4=>exact HC0_1.out);(case side5=>exact cb (Kd.C_below HR0_2.out HB.out));(case side6=>exact HC0_2.out);(case side7=>exact cb (Kd.C_below HR0_3.out HB.out));(case side8=>exact HC0_3.out);rintro e w11 ⟨rfl,hb⟩;refine ⟨_,rfl,?_⟩;have _:=qm (qv (g:=gb570) (o:= .cells #[.slice A0_0 l0_0.length c0_0, .slice A0_1 l0_1.length c0_1, .slice A0_2 l0_2.length c0_2, .slice A0_3 l0_3.length c0_3] 33 (0,0)) (by (with_reducible repeat (first|refine blk_drewN ?_ _|refine blk_drew ?_|refine blk_alloc ?_ _));exact BK570.out) hb);have _:=qm (qt (by repeat (first|(with_reducible first|exact HB.out|apply below_alloc|apply qi|apply qj|refine below_set ?_ GE570.out)|exact HB.out)) hb);clear BK570 HB;rename_i BK570 HB;(try clear hb);(try clear hb2);(try clear hk);(try clear hi))|(go_at_call 67;(with_reducible refine (impl_inVar.calls a1 t572 _ A9.out).mono ?_);rintro e w' ⟨rfl,⟨nd,rfl⟩⟩))
   go_meet
   case rel=>exact ⟨_,(!t572),(by first|rfl|(simp;done)|(simp [*];done)),H',⟨by first|omega|exact Nat.le_refl _⟩,⟨BK570.out⟩,⟨by repeat (first|(with_reducible first|exact HB.out|apply below_alloc|apply qi|apply qj|refine below_set ?_ GE570.out)|exact HB.out)⟩⟩
  replace c8:=Bool.eq_false_iff.mpr c8
  subst c8
  rw [if_neg nt] at H
  have H' :=qm H
  clear H
  obtain ⟨_,_,_,_,_,_,_,_⟩:=fc4 BK570.out
  go_wp2_with (first|((with_reducible refine gate_callee (f:=56) rfl ?_);refine goesL_ (some 13) rfl rfl Try.func56 (by kernel_rfl) rfl #[.agg #[.slice A0_0 l0_0.length c0_0, .slice A0_1 l0_1.length c0_1, .slice A0_2 l0_2.length c0_2, .slice A0_3 l0_3.length c0_3]] rfl (by (try simp only [m1,m2,m3]);first|done|rfl) ?_;(with_reducible refine (impl_keysOK.calls _ _ l0_0 _ _ l0_1 _ _ l0_2 _ _ l0_3 false _ ?side1 ?side2 ?side3 ?side4 ?side5 ?side6 ?side7 ?side8 A7.out).mono ?_);(case side1=>exact cb (Kd.C_below HR0_0.out HB.out));(case side2=>exact HC0_0.out);(case side3=>exact cb (Kd.C_below HR0_1.out HB.out));(case side4=>exact HC0_1.out);(case side5=>exact cb (Kd.C_below HR0_2.out HB.out));(case side6=>exact HC0_2.out);(case side7=>exact cb (Kd.C_below HR0_3.out HB.out));(case side8=>exact HC0_3.out);rintro e w13 ⟨rfl,hb⟩;refine ⟨_,rfl,?_⟩;have _:=qm (qv (g:=gb570) BK570.out hb);have _:=qm (qt HB.out hb);clear BK570 HB;rename_i BK570 HB))
  go_meet
  case rel=>exact ⟨_,(true),rfl,H',⟨by first|omega|exact Nat.le_refl _⟩,⟨BK570.out⟩,⟨HB.out⟩⟩
 clear HC5
 try clear c2
 try clear c3
 obtain ⟨kq,x19_4,rfl,HA,HJ4,BK570,HB⟩:=hcut
 cases kq with
 |zero=>exact absurd HA.out (by simp [impl_Seal.j0])
 |succ kj4=>?_
 have H:=HA.out
 clear HA
 simp only [impl_Seal.j0] at H
 by_cases c14:x19_4=true
 ·subst c14
  rw [if_pos rfl] at H
  simp only [Option.some.injEq,Prod.mk.injEq] at H
  obtain ⟨rfl,rfl⟩:=H
  go_wp2
  go_ret2
  exact ⟨_,by first|rfl|(simp <;> rfl)|(simp [*] <;> rfl),by first|exact Kd.R_nil _ _ _ _ _|exact Kd.N_nil _ _ _ _ _|exact Kd.V_nil _ _ _ _ _|exact Kd.Q_nil _ _ _ _ _|exact Kd.S_nil _ _ _ _ _,HB.out⟩
 replace c14:=Bool.eq_false_iff.mpr c14
 subst c14
 rw [if_neg nt] at H
 by_cases c15:(wrap64 ((l2.length:Int)+(l3.length:Int)))>1500
 ·rw [if_pos c15] at H
  have c15b0:decide (1500<(wrap64 ((l2.length:Int)+(l3.length:Int))))=true:=decide_eq_true c15
  clear c15
  simp only [Option.some.injEq,Prod.mk.injEq] at H
  obtain ⟨rfl,rfl⟩:=H
  go_wp2
  go_ret2
  exact ⟨_,by first|rfl|(simp <;> rfl)|(simp [*] <;> rfl),by first|exact Kd.R_nil _ _ _ _ _|exact Kd.N_nil _ _ _ _ _|exact Kd.V_nil _ _ _ _ _|exact Kd.Q_nil _ _ _ _ _|exact Kd.S_nil _ _ _ _ _,HB.out⟩
 rw [if_neg c15] at H
 have c15b0:decide (1500<(wrap64 ((l2.length:Int)+(l3.length:Int))))=false:=decide_eq_false c15
 clear c15
 replace H:=Option.bind_eq_some_iff.mp H
 obtain ⟨t573,A160,H⟩:=H
 try dsimp only at H
 have A16:=qm A160
 clear A160
 replace H:=Option.bind_eq_some_iff.mp H
 obtain ⟨t576,A170,H⟩:=H
 try dsimp only at H
 have A17:=qm A170
 clear A170
 replace H:=Option.bind_eq_some_iff.mp H
 obtain ⟨t579,A180,H⟩:=H
 try dsimp only at H
 have A18:=qm A180
 clear A180
 by_cases c19:t576.length+t579.length<140737488355328
 ·rw [if_pos c19] at H
  have LMc19:=qm c19
  clear c19
  obtain ⟨y582,hy582⟩:∃ y_:List Int,y_=(t576 ++ t579):=⟨_,rfl⟩
  replace H:(some (y582,0))=some (r1,r2):=by first|(rw [hy582];with_reducible exact H)|(have H2_:=(Option.bind_some _ _).symm.trans H;rw [hy582];with_reducible exact H2_)|(have H2_:=(Option.bind_some _ _).symm.trans H;with_reducible exact H2_)|with_reducible exact H|(rw [hy582];exact H)|exact H
  have Ny582:=qm hy582
  clear hy582
  simp only [Option.some.injEq,Prod.mk.injEq] at H
  obtain ⟨rfl,rfl⟩:=H
  obtain ⟨_,_,_,_,_,_,_,_⟩:=fc4 BK570.out
  go_wp2_with (first|((with_reducible refine gate_callee (f:=68) rfl ?_);refine goesL_ (some 28) rfl rfl Try.func68 (by kernel_rfl) rfl #[.agg #[.slice A0_0 l0_0.length c0_0, .slice A0_1 l0_1.length c0_1, .slice A0_2 l0_2.length c0_2, .slice A0_3 l0_3.length c0_3], .int .i64 a1] rfl (by (try simp only [m1,m2,m3]);first|done|rfl) ?_;(with_reducible refine (impl_nonceOf.calls kj4 _ _ l0_0 _ _ l0_1 _ _ l0_2 _ _ l0_3 a1 t573 _ ?side1 ?side2 ?side3 ?side4 ?side5 ?side6 ?side7 ?side8 A16.out).mono ?_);(case side1=>exact cb (Kd.C_below HR0_0.out HB.out));(case side2=>exact HC0_0.out);(case side3=>exact cb (Kd.C_below HR0_1.out HB.out));(case side4=>exact HC0_1.out);(case side5=>exact cb (Kd.C_below HR0_2.out HB.out));(case side6=>exact HC0_2.out);(case side7=>exact cb (Kd.C_below HR0_3.out HB.out));(case side8=>exact HC0_3.out);rintro e w21 ⟨v574,rfl,ho0,hb⟩;refine ⟨_,rfl,?_⟩;have _:=qm (Kd.R_lower ho0 (qs HB.out));have _:=qm (qv (g:=gb570) BK570.out hb);have _:=qm (qt HB.out hb);clear BK570 HB;rename_i HO575 BK570 HB;obtain ⟨_,_,_,_,_,_,_,_⟩:=fc4 BK570.out;obtain ⟨Ao23,co23,eo23⟩:=Kd.R_slice HO575.out;subst eo23)|((with_reducible refine gate_callee (f:=69) rfl ?_);refine goesL_ (some 32) rfl rfl Try.func69 (by kernel_rfl) rfl #[.agg #[.slice A0_0 l0_0.length c0_0, .slice A0_1 l0_1.length c0_1, .slice A0_2 l0_2.length c0_2, .slice A0_3 l0_3.length c0_3], .slice Ao23 t573.length co23, .slice A3 l3.length c3] rfl (by (try simp only [m1,m2,m3]);first|done|rfl) ?_;(with_reducible refine (impl_streamed.calls kj4 _ _ l0_0 _ _ l0_1 _ _ l0_2 _ _ l0_3 _ _ t573 _ _ l3 t576 _ ?side1 ?side2 ?side3 ?side4 ?side5 ?side6 ?side7 ?side8 ?side9 ?side10 ?side11 ?side12 A17.out).mono ?_);(case side1=>exact cb (Kd.C_below HR0_0.out HB.out));(case side2=>exact HC0_0.out);(case side3=>exact cb (Kd.C_below HR0_1.out HB.out));(case side4=>exact HC0_1.out);(case side5=>exact cb (Kd.C_below HR0_2.out HB.out));(case side6=>exact HC0_2.out);(case side7=>exact cb (Kd.C_below HR0_3.out HB.out));(case side8=>exact HC0_3.out);(case side9=>exact cb ((qe HO575.out).2.2));(case side10=>exact (qe HO575.out).2.1);(case side11=>exact cb (Kd.C_below HR3.out HB.out));(case side12=>exact HC3.out);rintro e w24 ⟨v577,rfl,ho0,hb⟩;refine ⟨_,rfl,?_⟩;have _:=qm (Kd.R_elder' HO575.out (Kd.R_base ho0) hb);have _:=qm (Kd.R_lower (nw ho0 HO575.out) (qs HB.out));have _:=qm (qv (g:=gb570) BK570.out hb);have _:=qm (qt HB.out hb);clear HO575 BK570 HB;rename_i HO575 HO578 BK570 HB;obtain ⟨_,_,_,_,_,_,_,_⟩:=fc4 BK570.out;obtain ⟨Ao26,co26,eo26⟩:=Kd.R_slice HO578.out;subst eo26)|((with_reducible refine gate_callee (f:=70) rfl ?_);refine goesL_ (some 38) rfl rfl Try.func70 (by kernel_rfl) rfl #[.agg #[.slice A0_0 l0_0.length c0_0, .slice A0_1 l0_1.length c0_1, .slice A0_2 l0_2.length c0_2, .slice A0_3 l0_3.length c0_3], .slice Ao23 t573.length co23, .slice A2 l2.length c2, .slice Ao26 t576.length co26] rfl (by (try simp only [m1,m2,m3]);first|done|rfl) ?_;(with_reducible refine (impl_tagOf.calls kj4 _ _ l0_0 _ _ l0_1 _ _ l0_2 _ _ l0_3 _ _ t573 _ _ l2 _ _ t576 t579 _ ?side1 ?side2 ?side3 ?side4 ?side5 ?side6 ?side7 ?side8 ?side9 ?side10 ?side11 ?side12 ?side13 ?side14 A18.out).mono ?_);(case side1=>exact cb (Kd.C_below HR0_0.out HB.out));(case side2=>exact HC0_0.out);(case side3=>exact cb (Kd.C_below HR0_1.out HB.out));(case side4=>exact HC0_1.out);(case side5=>exact cb (Kd.C_below HR0_2.out HB.out));(case side6=>exact HC0_2.out);(case side7=>exact cb (Kd.C_below HR0_3.out HB.out));(case side8=>exact HC0_3.out);(case side9=>exact cb ((qe HO575.out).2.2));(case side10=>exact (qe HO575.out).2.1);(case side11=>exact cb (Kd.C_below HR2.out HB.out));(case side12=>exact HC2.out);(case side13=>exact cb ((qe HO578.out).2.2));(case side14=>exact (qe HO578.out).2.1);rintro e w27 ⟨v580,rfl,ho0,hb⟩;refine ⟨_,rfl,?_⟩;have _:=qm (Kd.R_elder' HO575.out (Kd.R_base ho0) hb);have _:=qm (Kd.R_elder' HO578.out (Kd.R_base ho0) hb);have _:=qm (Kd.R_lower (nw (nw ho0 HO575.out) HO578.out) (qs HB.out));have _:=qm (qv (g:=gb570) BK570.out hb);have _:=qm (qt HB.out hb);clear HO575 HO578 BK570 HB;rename_i HO575 HO578 HO581 BK570 HB;obtain ⟨Ao29,co29,eo29⟩:=Kd.R_slice HO581.out;subst eo29)|((with_reducible refine gate_builtin (b:= .append) (xs:=#[.tmp 33, .tmp 38]) rfl ?_);at_builtin;refine Kd.R_append_rows (Kd.int .u8) (w0:=w) w.heap.size rfl (.tmp 33) (.tmp 38) 22 5 (.int .u8 0) 1 rfl Try.underlying22 info5 rfl (by decide) (by omega) (.slice Ao26 t576.length co26) t576 t579 _ _ _ (fun k_=>ob k_ (.slice Ao23 t573.length co23)∧ob k_ (.slice Ao29 t579.length co29)) (fun _=>False) rfl rfl ?aO ?aR (fun _ _ h=>h) (fun _ h=>h.elim) ?aF ?aB ?aS ?aL ?_;(case aR=>exact cb ((qe HO581.out).2.2));(case aB=>exact HB.out);(case aF=>exact (fun k_ hk=>⟨Kd.fresh' (Kd.R_lt HO575.out) k_ hk,Kd.fresh' (Kd.R_lt HO581.out) k_ hk⟩));(case aO=>exact (rb (qg HO578.out (fun _ hk=>⟨hk.1.2,hk.2⟩))));(case aS=>exact (qs HB.out));(case aL=>have:=LMc19.out;omega);intro v583 w28 ho hb hg hat;rw [←Ny582.out] at ho;have _:=qm (blk_grown (g:=gb570) BK570.out hg (Kd.R_ne HO578.out BK570.out (by decide)));have _:=qm (Kd.R_after (ok:=(fun k_=>ob k_ (.slice Ao29 t579.length co29))) (rb (qg HO575.out (fun _ hk=>⟨hk.2,hk.1.2⟩))) hg hat);have _:=qm (Kd.R_after (ok:=(fun k_=>ob k_ (.slice Ao23 t573.length co23))) (rb (qg HO581.out (fun _ hk=>⟨hk.1.2,hk.2⟩))) hg hat);have _:=qm (hb);have _:=qm (ho);clear BK570 HO575 HO581 HB HO578;rename_i BK570 HO575 HO581 HB HO584;clear ho hb hg hat))
  go_ret2
  exact ⟨_,by first|rfl|(simp <;> rfl)|(simp [*] <;> rfl),by (with_reducible repeat (first|apply qb|apply qc|apply qd));exact qg HO584.out (fun _ hk=>trivial),HB.out⟩
 rw [if_neg c19] at H
 exact absurd H (by simp)
def impl_versionOK.f (a0:Int):Option (Bool):=if a0≥1 then (some (decide (a0≤4294967295))) else (some false)
set_option maxHeartbeats 8000000 in
set_option maxRecDepth 100000 in
theorem impl_versionOK.calls (a0:Int) (r:Bool) (w:World) (h:impl_versionOK.f a0=some r) :
  Calls Try.prog 60 #[.int .i64 a0] w fun e w' =>e = .returned (.bool r)∧Drawn0 w w' :=by
 have H:(if a0≥1 then (some (decide (a0≤4294967295))) else (some false))=some r:=h
 clear h
 by_cases c2:a0≥1
 ·rw [if_pos c2] at H
  have c2b0:decide (1≤a0)=true:=decide_eq_true c2
  clear c2
  obtain rfl:=Option.some.inj H
  go_enter Try.func60,Try.ntmps60
  go_wp2
  go_ret
  exact ⟨by first|rfl|(simp;done)|(simp [*];done),by repeat (first|exact Drawn0.refl _|apply Drawn0.step)⟩
 rw [if_neg c2] at H
 have c2b0:decide (1≤a0)=false:=decide_eq_false c2
 clear c2
 obtain rfl:=Option.some.inj H
 go_enter Try.func60,Try.ntmps60
 go_wp2
 go_ret
 exact ⟨by first|rfl|(simp;done)|(simp [*];done),by repeat (first|exact Drawn0.refl _|apply Drawn0.step)⟩
end Go.Proofs.Ytcdkbdkanjifeaa.SFnExactProtectPacket
