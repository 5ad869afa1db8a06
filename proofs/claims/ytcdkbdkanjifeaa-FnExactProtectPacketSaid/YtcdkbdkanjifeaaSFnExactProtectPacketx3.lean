/- The walk of functions that the law FnExactProtectPacket uses, written by program. -/
import Derived.Test.YtcdkbdkanjifeaaSFnExactProtectPacketx0
import Derived.Test.YtcdkbdkanjifeaaSFnExactProtectPacketx2
import Derived.Test.YtcdkbdkanjifeaaSteps2
import Derived.Test.YtcdkbdkanjifeaaSteps3
namespace Go.Proofs.Ytcdkbdkanjifeaa.SFnExactProtectPacket
open Go.Proofs.Ytcdkbdkanjifeaa.Steps3 Go.Proofs.Ytcdkbdkanjifeaa.Steps2 Go.RowKit Go.Proofs.YtcdkbdkanjifeaaW.PrintWords Go.Proofs.YtcdkbdkanjifeaaW.PrintLast Go.Proofs.YtcdkbdkanjifeaaW.PrintMore
open Go.Proofs.YtcdkbdkanjifeaaW.PrintWords renaming below_alloc → qh, pw_below_drewN → qi, below_drew1 → qj, below_set → qk, blk_drewN → ql, blk_drew → qn, blk_alloc → qo, blk_put → qp, below_size → qs, below_step → qt, blk_cell → qu, blk_below → qv
open Go.Proofs.YtcdkbdkanjifeaaW.PrintWords.Kd renaming R_far → qa, R_alloc → qb, R_drewN → qc, R_drew → qd, R_reads' → qe, R_below → qf, R_mono → qg
open Go.Proofs.YtcdkbdkanjifeaaW.PrintWords.Aside0 renaming mk → qm
attribute [local go_sem] max2_int min2_int max_two min_two max_three min_three max_four min_four 
set_option linter.unusedVariables false
set_option linter.unusedSimpArgs false
def spec_l03Digest.l0:Nat→Int→Int→Int→Int→Int→Option (List Int)
 |0,_,_,_,_,_=>none
 |k+1,x6,x189000,x189001,x189002,x189003=>if x6<16 then ((spec_l03Stir.f k x189000 x189001 x189002 x189003 (([165]:List Int))).bind fun bt214=>(spec_l03Digest.l0 k (wrap64 (x6+1)) bt214.1 bt214.2.1 bt214.2.2.1 bt214.2.2.2)) else ((spec_l01Digits.f k (wrap64 (x189000)) 4).bind fun t218=>((spec_l01Digits.f k (wrap64 (x189001)) 4).bind fun t221=>(if t218.length+t221.length<140737488355328 then ((some (t218 ++ t221:List Int)).bind fun y224=>((spec_l01Digits.f k (wrap64 (x189002)) 4).bind fun t227=>(if y224.length+t227.length<140737488355328 then ((some (y224 ++ t227:List Int)).bind fun y230=>((spec_l01Digits.f k (wrap64 (x189003)) 4).bind fun t233=>(if y230.length+t233.length<140737488355328 then (some (y230 ++ t233)) else (none)))) else (none)))) else (none))))
def spec_l03Digest.f (k:Nat) (l0:List Int) (l1:List Int):Option (List Int):=(spec_l01Digits.f k (l0.length:Int) 4).bind fun t189=>((spec_l03Stir.f k 1779033703 3144134277 1013904242 2773480762 t189).bind fun bt192=>((spec_l03Stir.f k bt192.1 bt192.2.1 bt192.2.2.1 bt192.2.2.2 l0).bind fun bt196=>((spec_l03Stir.f k bt196.1 bt196.2.1 bt196.2.2.1 bt196.2.2.2 l1).bind fun bt200=>((spec_l01Digits.f k (l1.length:Int) 4).bind fun t204=>((spec_l03Stir.f k bt200.1 bt200.2.1 bt200.2.2.1 bt200.2.2.2 t204).bind fun bt207=>(spec_l03Digest.l0 k 0 bt207.1 bt207.2.1 bt207.2.2.1 bt207.2.2.2))))))
set_option maxHeartbeats 8000000 in
set_option maxRecDepth 100000 in
theorem spec_l03Digest.calls (k:Nat) (A0:Option Addr) (c0:Nat) (l0:List Int) (A1:Option Addr) (c1:Nat) (l1:List Int) (r:List Int) (w:World) (hr0:Kd.C (Kd.int .u8) w A0 l0.length l0) (hc0:l0.length≤c0) (hr1:Kd.C (Kd.int .u8) w A1 l1.length l1) (hc1:l1.length≤c1) (h:spec_l03Digest.f k l0 l1=some r) :
  Calls Try.prog 49 #[.slice A0 l0.length c0, .slice A1 l1.length c1] w fun e w' =>∃ v0_:Value,e = .returned (v0_)∧Kd.R (Kd.int .u8) 5 w' w.heap.size (fun _=>True) v0_ r∧Below w.heap.size w w' :=by
 have hu75:=Try.underlying75
 have HR0:=qm hr0
 have HC0:=qm hc0
 clear hr0 hc0
 have HR1:=qm hr1
 have HC1:=qm hc1
 clear hr1 hc1
 have HB:=qm (Below.refl w.heap.size w)
 have H:((spec_l01Digits.f k (l0.length:Int) 4).bind fun t189=>((spec_l03Stir.f k 1779033703 3144134277 1013904242 2773480762 t189).bind fun bt192=>((spec_l03Stir.f k bt192.1 bt192.2.1 bt192.2.2.1 bt192.2.2.2 l0).bind fun bt196=>((spec_l03Stir.f k bt196.1 bt196.2.1 bt196.2.2.1 bt196.2.2.2 l1).bind fun bt200=>((spec_l01Digits.f k (l1.length:Int) 4).bind fun t204=>((spec_l03Stir.f k bt200.1 bt200.2.1 bt200.2.2.1 bt200.2.2.2 t204).bind fun bt207=>(spec_l03Digest.l0 k 0 bt207.1 bt207.2.1 bt207.2.2.1 bt207.2.2.2)))))))=some r:=h
 clear h
 replace H:=Option.bind_eq_some_iff.mp H
 obtain ⟨t189,A30,H⟩:=H
 try dsimp only at H
 have A3:=qm A30
 clear A30
 replace H:=Option.bind_eq_some_iff.mp H
 obtain ⟨⟨t192,t193,t194,t195⟩,A40,H⟩:=H
 try dsimp only at H
 have A4:=qm A40
 clear A40
 replace H:=Option.bind_eq_some_iff.mp H
 obtain ⟨⟨t196,t197,t198,t199⟩,A50,H⟩:=H
 try dsimp only at H
 have A5:=qm A50
 clear A50
 replace H:=Option.bind_eq_some_iff.mp H
 obtain ⟨⟨t200,t201,t202,t203⟩,A60,H⟩:=H
 try dsimp only at H
 have A6:=qm A60
 clear A60
 replace H:=Option.bind_eq_some_iff.mp H
 obtain ⟨t204,A70,H⟩:=H
 try dsimp only at H
 have A7:=qm A70
 clear A70
 replace H:=Option.bind_eq_some_iff.mp H
 obtain ⟨⟨t207,t208,t209,t210⟩,A80,H⟩:=H
 try dsimp only at H
 have A8:=qm A80
 clear A80
 have H' :=qm H
 clear H
 go_enter Try.func49,Try.ntmps49
 try go_wp2_with (first|((with_reducible refine gate_dst (N:=5) rfl ?_);refine box_event ?hg (N:=5) ?hd (cs:=#[.int .u32 0, .int .u32 0, .int .u32 0, .int .u32 0]) (t:=75) ?hr ?_;(case hd=>rfl);(case hg=>rfl);(case hr=>first|(go_simp;done)|(go_simp;rfl));intro gb188 hg w9 hbox hb;have _:=qm (qt (by repeat first|exact HB.out|apply qh|apply qi|apply qj) hb);have _:=qm (hbox);have _:=qm ((gs hg (qs (by repeat first|exact HB.out|apply qh|apply qi|apply qj))));have _:=qm ((gs hg (qs (by repeat first|exact HB.out|apply qh|apply qi|apply qj))));clear HB;rename_i HB BK188 GW188 GE188;clear hb hbox hg;obtain ⟨z4_0,z4_1,z4_2,z4_3,z4_4,z4_5,z4_6,z4_7⟩:=fc4 BK188.out))
 have n0_:Aside0 (((((w9.setCell ⟨gb188,0,none⟩ (.int .u32 1779033703)).setCell ⟨gb188,1,none⟩ (.int .u32 3144134277)).setCell ⟨gb188,2,none⟩ (.int .u32 1013904242)).setCell ⟨gb188,3,none⟩ (.int .u32 2773480762)).heap[gb188]? =some (.cells #[.int .u32 1779033703, .int .u32 3144134277, .int .u32 1013904242, .int .u32 2773480762] 75 (0,0))):=⟨by (with_reducible repeat first|apply ql|apply qn|apply qo);refine qp (cs:=#[.int .u32 1779033703, .int .u32 3144134277, .int .u32 1013904242, .int .u32 0]) ?_ 3 _ rfl;refine qp (cs:=#[.int .u32 1779033703, .int .u32 3144134277, .int .u32 0, .int .u32 0]) ?_ 2 _ rfl;refine qp (cs:=#[.int .u32 1779033703, .int .u32 0, .int .u32 0, .int .u32 0]) ?_ 1 _ rfl;refine qp (cs:=#[.int .u32 0, .int .u32 0, .int .u32 0, .int .u32 0]) ?_ 0 _ rfl;(with_reducible repeat first|apply ql|apply qn|apply qo);exact BK188.out⟩
 have n1_:Aside0 (Below w.heap.size w ((((w9.setCell ⟨gb188,0,none⟩ (.int .u32 1779033703)).setCell ⟨gb188,1,none⟩ (.int .u32 3144134277)).setCell ⟨gb188,2,none⟩ (.int .u32 1013904242)).setCell ⟨gb188,3,none⟩ (.int .u32 2773480762))):=⟨by repeat (first|(with_reducible first|exact HB.out|apply qh|apply qi|apply qj|refine qk ?_ GE188.out)|exact HB.out)⟩
 (try clear BK188)
 (try clear HB)
 generalize ((((w9.setCell ⟨gb188,0,none⟩ (.int .u32 1779033703)).setCell ⟨gb188,1,none⟩ (.int .u32 3144134277)).setCell ⟨gb188,2,none⟩ (.int .u32 1013904242)).setCell ⟨gb188,3,none⟩ (.int .u32 2773480762))=w11 at n0_ n1_ ⊢
 have BK188:=n0_
 have HB:=n1_
 clear n0_ n1_
 have _:=qm (qn BK188.out)
 have _:=qm (qj HB.out)
 clear BK188 HB
 rename_i BK188 HB
 refine start_ (n:=6) (S:=fun w' =>w'.cell? ⟨gb188,0,none⟩=some (.int .u32 1779033703)∧w'.cell? ⟨gb188,1,none⟩=some (.int .u32 3144134277)∧w'.cell? ⟨gb188,2,none⟩=some (.int .u32 1013904242)∧w'.cell? ⟨gb188,3,none⟩=some (.int .u32 2773480762)) (ds:=[5]) (bm 0 6) (by kernel_rfl) rfl rfl ⟨(qu BK188.out 0).trans rfl,(qu BK188.out 1).trans rfl,(qu BK188.out 2).trans rfl,(qu BK188.out 3).trans rfl⟩ (fun hHeld=>?_)
 generalize w11.drew=w12 at BK188 HB hHeld ⊢
 refine pure_ (i:=1) (N:=some 10) (v:=?_) (a' :=?_) (bb 2 6) rfl rfl (by kernel_rfl) (fun _ _ _ h=>h) (Or.inl ⟨by rfl,?_⟩) ?_ ?_
 rotate_left
 ·intro w'
  go_simp
  with_reducible rfl
 rotate_left
 ·simp only [Act.put,s1,s2,s3,i64_w,i32_w]
  rfl
 refine pure_ (i:=2) (N:=some 11) (v:=?_) (a' :=?_) (bb 6 6) rfl rfl (by kernel_rfl) (fun _ _ _ h=>h) (Or.inl ⟨by rfl,?_⟩) ?_ ?_
 rotate_left
 ·intro w'
  go_simp
  with_reducible rfl
 rotate_left
 ·simp only [Act.put,s1,s2,s3,i64_w,i32_w]
  rfl
 refine take_ (i:=0) (N:=some 9) (v:=?_) (a' :=?_) (bm 3 6) rfl rfl (by kernel_rfl) (fun _ _ _ h=>h) (Or.inl ⟨by rfl,?_⟩) hHeld ?_ ?_
 rotate_left
 ·rintro w' ⟨s0,s1,s2,s3⟩
  go_simp
  with_reducible rfl
 rotate_left
 ·simp only [Act.put,s1,s2,s3,i64_w,i32_w]
  rfl
 refine one_ (i:=3) (N:=some 12) (bm 4 6) rfl rfl (by kernel_rfl) (by decide) (fun K hK=>?_)
 refine goes_ Try.func64 (by kernel_rfl) rfl #[.int .i64 (l0.length:Int), .int .i64 4] (by rfl) rfl rfl (by (try simp only [m1,m2,m3]);first|done|rfl) ?_
 with_reducible refine (spec_l01Digits.calls k (l0.length:Int) 4 t189 _ A3.out).mono ?_
 rintro e w13 ⟨v190,rfl,ho0,hb⟩
 refine ⟨_,rfl,?_⟩
 have _:=qm (Kd.R_lower ho0 (qs HB.out))
 have _:=qm (qv (g:=gb188) BK188.out hb)
 have _:=qm (qt HB.out hb)
 clear BK188 HB
 rename_i HO191 BK188 HB
 (try clear hb)
 (try clear hb2)
 (try clear hk)
 (try clear hi)
 (try clear ho0)
 obtain ⟨Ao14,co14,eo14⟩:=Kd.R_slice HO191.out
 (first|subst eo14|(injection eo14 with f1_ f2_ f3_;have f4_:=f1_.symm;have f5_:=f3_.symm;clear f1_ f2_ f3_;subst f4_;subst f5_))
 refine hK.out _ _ ⟨(qu BK188.out 0).trans rfl,(qu BK188.out 1).trans rfl,(qu BK188.out 2).trans rfl,(qu BK188.out 3).trans rfl⟩ (fun hHeld=>?_)
 clear hK K
 refine norm_ (a' :=?_) ?_ ?_
 rotate_left
 ·show Act.put _ (some 12) _=_
  simp only [Act.put,s1,s2,s3,i64_w,i32_w]
  rfl
 refine one_ (i:=4) (N:=some 13) (bm 5 6) rfl rfl (by kernel_rfl) (by decide) (fun K hK=>?_)
 refine goes_ Try.func78 (by kernel_rfl) rfl #[.agg #[.int .u32 1779033703, .int .u32 3144134277, .int .u32 1013904242, .int .u32 2773480762], .slice Ao14 t189.length co14] (by rfl) rfl rfl (by (try simp only [m1,m2,m3]);first|done|rfl) ?_
 with_reducible refine (spec_l03Stir.calls k 1779033703 3144134277 1013904242 2773480762 _ _ t189 t192 t193 t194 t195 _ ?side1 ?side2 A4.out).mono ?_
 (case side1=>exact cb ((qe HO191.out).2.2))
 (case side2=>exact (qe HO191.out).2.1)
 rintro e w15 ⟨rfl,hb⟩
 refine ⟨_,rfl,?_⟩
 have _:=qm (qf HO191.out hb)
 have _:=qm (qv (g:=gb188) BK188.out hb)
 have _:=qm (qt HB.out hb)
 clear HO191 BK188 HB
 rename_i HO191 BK188 HB
 (try clear hb)
 (try clear hb2)
 (try clear hk)
 (try clear hi)
 refine hK.out _ _ ⟨(qu BK188.out 0).trans rfl,(qu BK188.out 1).trans rfl,(qu BK188.out 2).trans rfl,(qu BK188.out 3).trans rfl⟩ (fun hHeld=>?_)
 clear hK K
 refine norm_ (a' :=?_) ?_ ?_
 rotate_left
 ·show Act.put _ (some 13) _=_
  simp only [Act.put,s1,s2,s3,i64_w,i32_w]
  rfl
 refine last_ (i:=5) (N:=none) (bm 6 6) rfl rfl (by kernel_rfl) (by decide) (fun K hK=>?_)
 have hs16:w15.cell? ⟨gb188,0,none⟩=some (.int .u32 1779033703):=(qu BK188.out 0).trans rfl
 have hfs16:=blk_frozen BK188.out 0
 have hs17:w15.cell? ⟨gb188,1,none⟩=some (.int .u32 3144134277):=(qu BK188.out 1).trans rfl
 have hfs17:=blk_frozen BK188.out 1
 have hs18:w15.cell? ⟨gb188,2,none⟩=some (.int .u32 1013904242):=(qu BK188.out 2).trans rfl
 have hfs18:=blk_frozen BK188.out 2
 have hs19:w15.cell? ⟨gb188,3,none⟩=some (.int .u32 2773480762):=(qu BK188.out 3).trans rfl
 have hfs19:=blk_frozen BK188.out 3
 refine skip_ (w1:=?_) (by rfl) rfl ?_ ?_
 rotate_left
 ·go_simp
  rfl
 refine hK.out _ _ ?_
 clear hK K
 refine done_ (by kernel_rfl) ?_
 obtain ⟨_,_,_,_,_,_,_,_⟩:=fc4 BK188.out
 try go_wp2_with (first|((with_reducible refine gate_callee (f:=78) rfl ?_);refine goesL_ (some 16) rfl rfl Try.func78 (by kernel_rfl) rfl #[.agg #[.int .u32 t192, .int .u32 t193, .int .u32 t194, .int .u32 t195], .slice A0 l0.length c0] rfl (by (try simp only [m1,m2,m3]);first|done|rfl) ?_;(with_reducible refine (spec_l03Stir.calls k t192 t193 t194 t195 _ _ l0 t196 t197 t198 t199 _ ?side1 ?side2 A5.out).mono ?_);(case side1=>exact Kd.C_below HR0.out (by repeat first|exact HB.out|apply qh|apply qi|apply qj|refine bk ?_));(case side2=>exact HC0.out);rintro e w21 ⟨rfl,hb⟩;refine ⟨_,rfl,?_⟩;have _:=qm (qf (rb (qg (qa (p:=⟨gb188,3,none⟩) (qa (p:=⟨gb188,2,none⟩) (qa (p:=⟨gb188,1,none⟩) (qa (p:=⟨gb188,0,none⟩) (Kd.R_types HO191.out BK188.out (by decide)) (fun _ hk=>hk.2) (.int .u32 t192)) (fun _ hk=>hk.2) (.int .u32 t193)) (fun _ hk=>hk.2) (.int .u32 t194)) (fun _ hk=>hk.2) (.int .u32 t195)) (fun _ h_=>h_.1))) hb);have _:=qm (qv (g:=gb188) (o:= .cells #[.int .u32 t192, .int .u32 t193, .int .u32 t194, .int .u32 t195] 75 (0,0)) (by (with_reducible repeat first|apply ql|apply qn|apply qo);refine qp (cs:=#[.int .u32 t192, .int .u32 t193, .int .u32 t194, .int .u32 2773480762]) ?_ 3 _ rfl;(with_reducible repeat first|apply ql|apply qn|apply qo);refine qp (cs:=#[.int .u32 t192, .int .u32 t193, .int .u32 1013904242, .int .u32 2773480762]) ?_ 2 _ rfl;(with_reducible repeat first|apply ql|apply qn|apply qo);refine qp (cs:=#[.int .u32 t192, .int .u32 3144134277, .int .u32 1013904242, .int .u32 2773480762]) ?_ 1 _ rfl;(with_reducible repeat first|apply ql|apply qn|apply qo);refine qp (cs:=#[.int .u32 1779033703, .int .u32 3144134277, .int .u32 1013904242, .int .u32 2773480762]) ?_ 0 _ rfl;exact kb BK188.out) hb);have _:=qm (qt (by repeat first|exact HB.out|apply qh|apply qi|apply qj|refine bk ?_) hb);clear HO191 BK188 HB;rename_i HO191 BK188 HB;(try clear hb);(try clear hb2);(try clear hk);(try clear hi);obtain ⟨z4_0,z4_1,z4_2,z4_3,z4_4,z4_5,z4_6,z4_7⟩:=fc4 BK188.out)|((with_reducible refine gate_callee (f:=78) rfl ?_);refine goesL_ (some 19) rfl rfl Try.func78 (by kernel_rfl) rfl #[.agg #[.int .u32 t196, .int .u32 t197, .int .u32 t198, .int .u32 t199], .slice A1 l1.length c1] rfl (by (try simp only [m1,m2,m3]);first|done|rfl) ?_;(with_reducible refine (spec_l03Stir.calls k t196 t197 t198 t199 _ _ l1 t200 t201 t202 t203 _ ?side1 ?side2 A6.out).mono ?_);(case side1=>exact Kd.C_below HR1.out (by repeat first|exact HB.out|apply qh|apply qi|apply qj|refine bk ?_));(case side2=>exact HC1.out);rintro e w23 ⟨rfl,hb⟩;refine ⟨_,rfl,?_⟩;have _:=qm (qf (rb (qg (qa (p:=⟨gb188,3,none⟩) (qa (p:=⟨gb188,2,none⟩) (qa (p:=⟨gb188,1,none⟩) (qa (p:=⟨gb188,0,none⟩) (Kd.R_types HO191.out BK188.out (by decide)) (fun _ hk=>hk.2) (.int .u32 t196)) (fun _ hk=>hk.2) (.int .u32 t197)) (fun _ hk=>hk.2) (.int .u32 t198)) (fun _ hk=>hk.2) (.int .u32 t199)) (fun _ h_=>h_.1))) hb);have _:=qm (qv (g:=gb188) (o:= .cells #[.int .u32 t196, .int .u32 t197, .int .u32 t198, .int .u32 t199] 75 (0,0)) (by (with_reducible repeat first|apply ql|apply qn|apply qo);refine qp (cs:=#[.int .u32 t196, .int .u32 t197, .int .u32 t198, .int .u32 t195]) ?_ 3 _ rfl;(with_reducible repeat first|apply ql|apply qn|apply qo);refine qp (cs:=#[.int .u32 t196, .int .u32 t197, .int .u32 t194, .int .u32 t195]) ?_ 2 _ rfl;(with_reducible repeat first|apply ql|apply qn|apply qo);refine qp (cs:=#[.int .u32 t196, .int .u32 t193, .int .u32 t194, .int .u32 t195]) ?_ 1 _ rfl;(with_reducible repeat first|apply ql|apply qn|apply qo);refine qp (cs:=#[.int .u32 t192, .int .u32 t193, .int .u32 t194, .int .u32 t195]) ?_ 0 _ rfl;exact kb BK188.out) hb);have _:=qm (qt (by repeat first|exact HB.out|apply qh|apply qi|apply qj|refine bk ?_) hb);clear HO191 BK188 HB;rename_i HO191 BK188 HB;(try clear hb);(try clear hb2);(try clear hk);(try clear hi);obtain ⟨z4_0,z4_1,z4_2,z4_3,z4_4,z4_5,z4_6,z4_7⟩:=fc4 BK188.out))
 have n0_:Aside0 (Kd.R (Kd.int .u8) 5 ((((w23.setCell ⟨gb188,0,none⟩ (.int .u32 t200)).setCell ⟨gb188,1,none⟩ (.int .u32 t201)).setCell ⟨gb188,2,none⟩ (.int .u32 t202)).setCell ⟨gb188,3,none⟩ (.int .u32 t203)) w.heap.size (fun _=>True) (.slice Ao14 t189.length co14) t189):=⟨rb (qg (qa (p:=⟨gb188,3,none⟩) (qa (p:=⟨gb188,2,none⟩) (qa (p:=⟨gb188,1,none⟩) (qa (p:=⟨gb188,0,none⟩) (Kd.R_types HO191.out BK188.out (by decide)) (fun _ hk=>hk.2) (.int .u32 t200)) (fun _ hk=>hk.2) (.int .u32 t201)) (fun _ hk=>hk.2) (.int .u32 t202)) (fun _ hk=>hk.2) (.int .u32 t203)) (fun _ hk=>trivial))⟩
 have n1_:Aside0 (((((w23.setCell ⟨gb188,0,none⟩ (.int .u32 t200)).setCell ⟨gb188,1,none⟩ (.int .u32 t201)).setCell ⟨gb188,2,none⟩ (.int .u32 t202)).setCell ⟨gb188,3,none⟩ (.int .u32 t203)).heap[gb188]? =some (.cells #[.int .u32 t200, .int .u32 t201, .int .u32 t202, .int .u32 t203] 75 (0,0))):=⟨by (with_reducible repeat first|apply ql|apply qn|apply qo);refine qp (cs:=#[.int .u32 t200, .int .u32 t201, .int .u32 t202, .int .u32 t199]) ?_ 3 _ rfl;(with_reducible repeat first|apply ql|apply qn|apply qo);refine qp (cs:=#[.int .u32 t200, .int .u32 t201, .int .u32 t198, .int .u32 t199]) ?_ 2 _ rfl;(with_reducible repeat first|apply ql|apply qn|apply qo);refine qp (cs:=#[.int .u32 t200, .int .u32 t197, .int .u32 t198, .int .u32 t199]) ?_ 1 _ rfl;(with_reducible repeat first|apply ql|apply qn|apply qo);refine qp (cs:=#[.int .u32 t196, .int .u32 t197, .int .u32 t198, .int .u32 t199]) ?_ 0 _ rfl;(with_reducible repeat first|apply ql|apply qn|apply qo);exact BK188.out⟩
 have n2_:Aside0 (Below w.heap.size w ((((w23.setCell ⟨gb188,0,none⟩ (.int .u32 t200)).setCell ⟨gb188,1,none⟩ (.int .u32 t201)).setCell ⟨gb188,2,none⟩ (.int .u32 t202)).setCell ⟨gb188,3,none⟩ (.int .u32 t203))):=⟨by repeat (first|(with_reducible first|exact HB.out|apply qh|apply qi|apply qj|refine qk ?_ GE188.out)|exact HB.out)⟩
 (try clear HO191)
 (try clear BK188)
 (try clear HB)
 generalize ((((w23.setCell ⟨gb188,0,none⟩ (.int .u32 t200)).setCell ⟨gb188,1,none⟩ (.int .u32 t201)).setCell ⟨gb188,2,none⟩ (.int .u32 t202)).setCell ⟨gb188,3,none⟩ (.int .u32 t203))=w25 at n0_ n1_ n2_ ⊢
 have HO191:=n0_
 have BK188:=n1_
 have HB:=n2_
 clear n0_ n1_ n2_
 have _:=qm (qd HO191.out)
 have _:=qm (qn BK188.out)
 have _:=qm (qj HB.out)
 clear HO191 BK188 HB
 rename_i HO191 BK188 HB
 refine start_ (n:=6) (S:=fun w' =>w'.cell? ⟨gb188,0,none⟩=some (.int .u32 t200)∧w'.cell? ⟨gb188,1,none⟩=some (.int .u32 t201)∧w'.cell? ⟨gb188,2,none⟩=some (.int .u32 t202)∧w'.cell? ⟨gb188,3,none⟩=some (.int .u32 t203)) (ds:=[5]) (bm 0 6) (by kernel_rfl) rfl rfl ⟨(qu BK188.out 0).trans rfl,(qu BK188.out 1).trans rfl,(qu BK188.out 2).trans rfl,(qu BK188.out 3).trans rfl⟩ (fun hHeld=>?_)
 generalize w25.drew=w26 at HO191 BK188 HB hHeld ⊢
 refine pure_ (i:=1) (N:=some 21) (v:=?_) (a' :=?_) (bb 2 6) rfl rfl (by kernel_rfl) (fun _ _ _ h=>h) (Or.inl ⟨by rfl,?_⟩) ?_ ?_
 rotate_left
 ·intro w'
  go_simp
  with_reducible rfl
 rotate_left
 ·simp only [Act.put,s1,s2,s3,i64_w,i32_w]
  rfl
 refine pure_ (i:=2) (N:=some 22) (v:=?_) (a' :=?_) (bb 6 6) rfl rfl (by kernel_rfl) (fun _ _ _ h=>h) (Or.inl ⟨by rfl,?_⟩) ?_ ?_
 rotate_left
 ·intro w'
  go_simp
  with_reducible rfl
 rotate_left
 ·simp only [Act.put,s1,s2,s3,i64_w,i32_w]
  rfl
 refine take_ (i:=0) (N:=some 20) (v:=?_) (a' :=?_) (bm 3 6) rfl rfl (by kernel_rfl) (fun _ _ _ h=>h) (Or.inl ⟨by rfl,?_⟩) hHeld ?_ ?_
 rotate_left
 ·rintro w' ⟨s0,s1,s2,s3⟩
  go_simp
  with_reducible rfl
 rotate_left
 ·simp only [Act.put,s1,s2,s3,i64_w,i32_w]
  rfl
 refine one_ (i:=3) (N:=some 23) (bm 4 6) rfl rfl (by kernel_rfl) (by decide) (fun K hK=>?_)
 refine goes_ Try.func64 (by kernel_rfl) rfl #[.int .i64 (l1.length:Int), .int .i64 4] (by rfl) rfl rfl (by (try simp only [m1,m2,m3]);first|done|rfl) ?_
 with_reducible refine (spec_l01Digits.calls k (l1.length:Int) 4 t204 _ A7.out).mono ?_
 rintro e w27 ⟨v205,rfl,ho0,hb⟩
 refine ⟨_,rfl,?_⟩
 have _:=qm (Kd.R_elder' HO191.out (Kd.R_base ho0) hb)
 have _:=qm (Kd.R_lower (nw ho0 HO191.out) (qs HB.out))
 have _:=qm (qv (g:=gb188) BK188.out hb)
 have _:=qm (qt HB.out hb)
 clear HO191 BK188 HB
 rename_i HO191 HO206 BK188 HB
 (try clear hb)
 (try clear hb2)
 (try clear hk)
 (try clear hi)
 (try clear ho0)
 obtain ⟨Ao28,co28,eo28⟩:=Kd.R_slice HO206.out
 (first|subst eo28|(injection eo28 with f1_ f2_ f3_;have f4_:=f1_.symm;have f5_:=f3_.symm;clear f1_ f2_ f3_;subst f4_;subst f5_))
 refine hK.out _ _ ⟨(qu BK188.out 0).trans rfl,(qu BK188.out 1).trans rfl,(qu BK188.out 2).trans rfl,(qu BK188.out 3).trans rfl⟩ (fun hHeld=>?_)
 clear hK K
 refine norm_ (a' :=?_) ?_ ?_
 rotate_left
 ·show Act.put _ (some 23) _=_
  simp only [Act.put,s1,s2,s3,i64_w,i32_w]
  rfl
 refine one_ (i:=4) (N:=some 24) (bm 5 6) rfl rfl (by kernel_rfl) (by decide) (fun K hK=>?_)
 refine goes_ Try.func78 (by kernel_rfl) rfl #[.agg #[.int .u32 t200, .int .u32 t201, .int .u32 t202, .int .u32 t203], .slice Ao28 t204.length co28] (by rfl) rfl rfl (by (try simp only [m1,m2,m3]);first|done|rfl) ?_
 with_reducible refine (spec_l03Stir.calls k t200 t201 t202 t203 _ _ t204 t207 t208 t209 t210 _ ?side1 ?side2 A8.out).mono ?_
 (case side1=>exact cb ((qe HO206.out).2.2))
 (case side2=>exact (qe HO206.out).2.1)
 rintro e w29 ⟨rfl,hb⟩
 refine ⟨_,rfl,?_⟩
 have _:=qm (qf HO191.out hb)
 have _:=qm (qf HO206.out hb)
 have _:=qm (qv (g:=gb188) BK188.out hb)
 have _:=qm (qt HB.out hb)
 clear HO191 HO206 BK188 HB
 rename_i HO191 HO206 BK188 HB
 (try clear hb)
 (try clear hb2)
 (try clear hk)
 (try clear hi)
 refine hK.out _ _ ⟨(qu BK188.out 0).trans rfl,(qu BK188.out 1).trans rfl,(qu BK188.out 2).trans rfl,(qu BK188.out 3).trans rfl⟩ (fun hHeld=>?_)
 clear hK K
 refine norm_ (a' :=?_) ?_ ?_
 rotate_left
 ·show Act.put _ (some 24) _=_
  simp only [Act.put,s1,s2,s3,i64_w,i32_w]
  rfl
 refine last_ (i:=5) (N:=none) (bm 6 6) rfl rfl (by kernel_rfl) (by decide) (fun K hK=>?_)
 have hs30:w29.cell? ⟨gb188,0,none⟩=some (.int .u32 t200):=(qu BK188.out 0).trans rfl
 have hfs30:=blk_frozen BK188.out 0
 have hs31:w29.cell? ⟨gb188,1,none⟩=some (.int .u32 t201):=(qu BK188.out 1).trans rfl
 have hfs31:=blk_frozen BK188.out 1
 have hs32:w29.cell? ⟨gb188,2,none⟩=some (.int .u32 t202):=(qu BK188.out 2).trans rfl
 have hfs32:=blk_frozen BK188.out 2
 have hs33:w29.cell? ⟨gb188,3,none⟩=some (.int .u32 t203):=(qu BK188.out 3).trans rfl
 have hfs33:=blk_frozen BK188.out 3
 refine skip_ (w1:=?_) (by rfl) rfl ?_ ?_
 rotate_left
 ·go_simp
  rfl
 refine hK.out _ _ ?_
 clear hK K
 refine done_ (by kernel_rfl) ?_
 try go_wp2
 go_loopg [6] k (fun kq v6 w' =>∃ (x6_1:Int) (x189000_1:Int) (x189001_1:Int) (x189002_1:Int) (x189003_1:Int),v6 = .int .i64 x6_1∧Aside0 (spec_l03Digest.l0 kq x6_1 x189000_1 x189001_1 x189002_1 x189003_1=some r)∧Aside0 (kq≤k)∧Aside0 (w'.heap[gb188]? =some (.cells #[.int .u32 x189000_1, .int .u32 x189001_1, .int .u32 x189002_1, .int .u32 x189003_1] 75 (0,0)))∧Aside0 (Below w.heap.size w w'))
 case atStart=>exact ⟨(0),(t207),(t208),(t209),(t210),(by first|rfl|(simp;done)|(simp [*];done)),H',⟨Nat.le_refl _⟩,⟨by (with_reducible repeat first|apply ql|apply qn|apply qo);refine qp (cs:=#[.int .u32 t207, .int .u32 t208, .int .u32 t209, .int .u32 t203]) ?_ 3 _ rfl;(with_reducible repeat first|apply ql|apply qn|apply qo);refine qp (cs:=#[.int .u32 t207, .int .u32 t208, .int .u32 t202, .int .u32 t203]) ?_ 2 _ rfl;(with_reducible repeat first|apply ql|apply qn|apply qo);refine qp (cs:=#[.int .u32 t207, .int .u32 t201, .int .u32 t202, .int .u32 t203]) ?_ 1 _ rfl;(with_reducible repeat first|apply ql|apply qn|apply qo);refine qp (cs:=#[.int .u32 t200, .int .u32 t201, .int .u32 t202, .int .u32 t203]) ?_ 0 _ rfl;(with_reducible repeat first|apply ql|apply qn|apply qo);exact BK188.out⟩,⟨by repeat (first|(with_reducible first|exact HB.out|apply qh|apply qi|apply qj|refine qk ?_ GE188.out)|exact HB.out)⟩⟩
 case round=>
  clear H'
  try clear c1
  obtain ⟨x6_1,x189000_1,x189001_1,x189002_1,x189003_1,rfl,HA,HK1,BK188,HB⟩:=hrel
  cases gk with
  |zero=>exact absurd HA.out (by simp [spec_l03Digest.l0])
  |succ k1=>?_
  have H:=HA.out
  clear HA
  simp only [spec_l03Digest.l0] at H
  by_cases c34:x6_1<16
  ·rw [if_pos c34] at H
   have c34b0:decide (x6_1<16)=true:=decide_eq_true c34
   clear c34
   obtain ⟨y211,hy211⟩:∃ y_:List Int,y_=(([165]:List Int)):=⟨_,rfl⟩
   replace H:((spec_l03Stir.f k1 x189000_1 x189001_1 x189002_1 x189003_1 y211).bind fun bt214=>(spec_l03Digest.l0 k1 (wrap64 (x6_1+1)) bt214.1 bt214.2.1 bt214.2.2.1 bt214.2.2.2))=some r:=by first|(rw [hy211];with_reducible exact H)|(have H2_:=(Option.bind_some _ _).symm.trans H;rw [hy211];with_reducible exact H2_)|(have H2_:=(Option.bind_some _ _).symm.trans H;with_reducible exact H2_)|with_reducible exact H|(rw [hy211];exact H)|exact H
   have Ny211:=qm hy211
   clear hy211
   replace H:=Option.bind_eq_some_iff.mp H
   obtain ⟨⟨t214,t215,t216,t217⟩,A350,H⟩:=H
   try dsimp only at H
   have A35:=qm A350
   clear A350
   have H' :=qm H
   clear H
   obtain ⟨_,_,_,_,_,_,_,_⟩:=fc4 BK188.out
   go_wp2_with (first|((with_reducible refine gate_dst (N:=30) rfl ?_);refine Kd.R_lit (Kd.int .u8) _ 5 ?hg (N:=30) ?hd (xs:=([165]:List Int)) (inner:=[.int .u8 165]) (ok:=fun _=>True) (okp:=fun _=>True) ?hr ?hp (fun _ hk=>hk) trivial (Below.refl _ _) (Nat.le_refl _) (by simp) ?_;(case hd=>rfl);(case hg=>rfl);(case hr=>first|(go_simp;done)|(go_simp;rfl));(case hp=>exact (Reps.one (show Kd.M (Kd.int .u8) _ _ _ 165 [.int .u8 165] from rfl) (Reps.none _ _)));intro v212 w37 ho38 hb hg_ hnew_;clear hg_ hnew_;(first|rw [←Ny211.out] at ho38|(simp only [Int.reduceToNat] at ho38;rw [←Ny211.out] at ho38));have _:=qm (Kd.R_lower ho38 (qs (by repeat first|exact HB.out|apply qh|apply qi|apply qj|refine bk ?_)));have _:=qm (qv (g:=gb188) (o:= .cells #[.int .u32 x189000_1, .int .u32 x189001_1, .int .u32 x189002_1, .int .u32 x189003_1] 75 (0,0)) (kb BK188.out) hb);have _:=qm (qt (by repeat first|exact HB.out|apply qh|apply qi|apply qj|refine bk ?_) hb);clear BK188 HB;rename_i HO213 BK188 HB;clear hb ho38;obtain ⟨Ao39,co39,eo39⟩:=Kd.R_slice HO213.out;subst eo39)|((with_reducible refine gate_callee (f:=78) rfl ?_);refine goesL_ (some 31) rfl rfl Try.func78 (by kernel_rfl) rfl #[.agg #[.int .u32 x189000_1, .int .u32 x189001_1, .int .u32 x189002_1, .int .u32 x189003_1], .slice Ao39 y211.length co39] rfl (by (try simp only [m1,m2,m3]);first|done|rfl) ?_;(with_reducible refine (spec_l03Stir.calls k1 x189000_1 x189001_1 x189002_1 x189003_1 _ _ y211 t214 t215 t216 t217 _ ?side1 ?side2 A35.out).mono ?_);(case side1=>exact cb ((qe HO213.out).2.2));(case side2=>exact (qe HO213.out).2.1);rintro e w40 ⟨rfl,hb⟩;refine ⟨_,rfl,?_⟩;have _:=qm (qf (rb HO213.out) hb);have _:=qm (qv (g:=gb188) (o:= .cells #[.int .u32 x189000_1, .int .u32 x189001_1, .int .u32 x189002_1, .int .u32 x189003_1] 75 (0,0)) (kb BK188.out) hb);have _:=qm (qt (by repeat first|exact HB.out|apply qh|apply qi|apply qj|refine bk ?_) hb);clear HO213 BK188 HB;rename_i HO213 BK188 HB;(try clear hb);(try clear hb2);(try clear hk);(try clear hi);obtain ⟨z4_0,z4_1,z4_2,z4_3,z4_4,z4_5,z4_6,z4_7⟩:=fc4 BK188.out))
   go_roundg k1
   case measure=>have:=HK1.out;omega
   case rel=>exact ⟨(wrap64 (x6_1+1)),(t214),(t215),(t216),(t217),(by first|rfl|(simp;done)|(simp [*];done)),H',⟨by have:=HK1.out;omega⟩,⟨by (with_reducible repeat first|apply ql|apply qn|apply qo);refine qp (cs:=#[.int .u32 t214, .int .u32 t215, .int .u32 t216, .int .u32 x189003_1]) ?_ 3 _ rfl;(with_reducible repeat first|apply ql|apply qn|apply qo);refine qp (cs:=#[.int .u32 t214, .int .u32 t215, .int .u32 x189002_1, .int .u32 x189003_1]) ?_ 2 _ rfl;(with_reducible repeat first|apply ql|apply qn|apply qo);refine qp (cs:=#[.int .u32 t214, .int .u32 x189001_1, .int .u32 x189002_1, .int .u32 x189003_1]) ?_ 1 _ rfl;(with_reducible repeat first|apply ql|apply qn|apply qo);refine qp (cs:=#[.int .u32 x189000_1, .int .u32 x189001_1, .int .u32 x189002_1, .int .u32 x189003_1]) ?_ 0 _ rfl;(with_reducible repeat first|apply ql|apply qn|apply qo);exact BK188.out⟩,⟨by repeat (first|(with_reducible first|exact HB.out|apply qh|apply qi|apply qj|refine qk ?_ GE188.out)|exact HB.out)⟩⟩
  rw [if_neg c34] at H
  have c34b0:decide (x6_1<16)=false:=decide_eq_false c34
  clear c34
  replace H:=Option.bind_eq_some_iff.mp H
  obtain ⟨t218,A420,H⟩:=H
  try dsimp only at H
  have A42:=qm A420
  clear A420
  replace H:=Option.bind_eq_some_iff.mp H
  obtain ⟨t221,A430,H⟩:=H
  try dsimp only at H
  have A43:=qm A430
  clear A430
  by_cases c44:t218.length+t221.length<140737488355328
  ·rw [if_pos c44] at H
   have LMc44:=qm c44
   clear c44
   obtain ⟨y224,hy224⟩:∃ y_:List Int,y_=(t218 ++ t221):=⟨_,rfl⟩
   replace H:((spec_l01Digits.f k1 (wrap64 (x189002_1)) 4).bind fun t227=>(if y224.length+t227.length<140737488355328 then ((some (y224 ++ t227:List Int)).bind fun y230=>((spec_l01Digits.f k1 (wrap64 (x189003_1)) 4).bind fun t233=>(if y230.length+t233.length<140737488355328 then (some (y230 ++ t233)) else (none)))) else (none)))=some r:=by first|(rw [hy224];with_reducible exact H)|(have H2_:=(Option.bind_some _ _).symm.trans H;rw [hy224];with_reducible exact H2_)|(have H2_:=(Option.bind_some _ _).symm.trans H;with_reducible exact H2_)|with_reducible exact H|(rw [hy224];exact H)|exact H
   have Ny224:=qm hy224
   clear hy224
   replace H:=Option.bind_eq_some_iff.mp H
   obtain ⟨t227,A450,H⟩:=H
   try dsimp only at H
   have A45:=qm A450
   clear A450
   by_cases c46:y224.length+t227.length<140737488355328
   ·rw [if_pos c46] at H
    have LMc46:=qm c46
    clear c46
    obtain ⟨y230,hy230⟩:∃ y_:List Int,y_=(y224 ++ t227):=⟨_,rfl⟩
    replace H:((spec_l01Digits.f k1 (wrap64 (x189003_1)) 4).bind fun t233=>(if y230.length+t233.length<140737488355328 then (some (y230 ++ t233)) else (none)))=some r:=by first|(rw [hy230];with_reducible exact H)|(have H2_:=(Option.bind_some _ _).symm.trans H;rw [hy230];with_reducible exact H2_)|(have H2_:=(Option.bind_some _ _).symm.trans H;with_reducible exact H2_)|with_reducible exact H|(rw [hy230];exact H)|exact H
    have Ny230:=qm hy230
    clear hy230
    replace H:=Option.bind_eq_some_iff.mp H
    obtain ⟨t233,A470,H⟩:=H
    try dsimp only at H
    have A47:=qm A470
    clear A470
    by_cases c48:y230.length+t233.length<140737488355328
    ·rw [if_pos c48] at H
     have LMc48:=qm c48
     clear c48
     obtain ⟨y236,hy236⟩:∃ y_:List Int,y_=(y230 ++ t233):=⟨_,rfl⟩
     replace H:(some y236)=some r:=by first|(rw [hy236];with_reducible exact H)|(have H2_:=(Option.bind_some _ _).symm.trans H;rw [hy236];with_reducible exact H2_)|(have H2_:=(Option.bind_some _ _).symm.trans H;with_reducible exact H2_)|with_reducible exact H|(rw [hy236];exact H)|exact H
     have Ny236:=qm hy236
     clear hy236
     obtain rfl:=Option.some.inj H
     obtain ⟨_,_,_,_,_,_,_,_⟩:=fc4 BK188.out
     go_wp2_with (first|((with_reducible refine gate_callee (f:=64) rfl ?_);refine goesL_ (some 35) rfl rfl Try.func64 (by kernel_rfl) rfl #[.int .i64 (wrap64 (x189000_1)), .int .i64 4] rfl (by (try simp only [m1,m2,m3]);first|done|rfl) ?_;(with_reducible refine (spec_l01Digits.calls k1 (wrap64 (x189000_1)) 4 t218 _ A42.out).mono ?_);rintro e w50 ⟨v219,rfl,ho0,hb⟩;refine ⟨_,rfl,?_⟩;have _:=qm (Kd.R_lower ho0 (qs HB.out));have _:=qm (qv (g:=gb188) BK188.out hb);have _:=qm (qt HB.out hb);clear BK188 HB;rename_i HO220 BK188 HB;obtain ⟨_,_,_,_,_,_,_,_⟩:=fc4 BK188.out)|((with_reducible refine gate_callee (f:=64) rfl ?_);refine goesL_ (some 40) rfl rfl Try.func64 (by kernel_rfl) rfl #[.int .i64 (wrap64 (x189001_1)), .int .i64 4] rfl (by (try simp only [m1,m2,m3]);first|done|rfl) ?_;(with_reducible refine (spec_l01Digits.calls k1 (wrap64 (x189001_1)) 4 t221 _ A43.out).mono ?_);rintro e w52 ⟨v222,rfl,ho0,hb⟩;refine ⟨_,rfl,?_⟩;have _:=qm (Kd.R_elder' HO220.out (Kd.R_base ho0) hb);have _:=qm (Kd.R_lower (nw ho0 HO220.out) (qs HB.out));have _:=qm (qv (g:=gb188) BK188.out hb);have _:=qm (qt HB.out hb);clear HO220 BK188 HB;rename_i HO220 HO223 BK188 HB;obtain ⟨Ao54,co54,eo54⟩:=Kd.R_slice HO223.out;subst eo54)|((with_reducible refine gate_builtin (b:= .append) (xs:=#[.tmp 36, .tmp 40]) rfl ?_);at_builtin;refine Kd.R_append_rows (Kd.int .u8) (w0:=w) w.heap.size rfl (.tmp 36) (.tmp 40) 22 5 (.int .u8 0) 1 rfl Try.underlying22 info5 rfl (by decide) (by omega) v219 t218 t221 _ _ _ (fun k_=>ob k_ (.slice Ao54 t221.length co54)) (fun _=>False) rfl rfl ?aO ?aR (fun _ _ h=>h) (fun _ h=>h.elim) ?aF ?aB ?aS ?aL ?_;(case aR=>exact cb ((qe HO223.out).2.2));(case aB=>exact HB.out);(case aF=>exact (fun k_ hk=>Kd.fresh' (Kd.R_lt HO223.out) k_ hk));(case aO=>exact (rb (qg HO220.out (fun _ hk=>hk.2))));(case aS=>exact (qs HB.out));(case aL=>have:=LMc44.out;omega);intro v225 w53 ho hb hg hat;rw [←Ny224.out] at ho;have _:=qm (blk_grown (g:=gb188) BK188.out hg (Kd.R_ne HO220.out BK188.out (by decide)));have _:=qm (Kd.R_after (ok:=(fun _=>True)) HO223.out hg hat);have _:=qm (hb);have _:=qm (ho);clear BK188 HO223 HB HO220;rename_i BK188 HO223 HB HO226;clear ho hb hg hat;obtain ⟨_,_,_,_,_,_,_,_⟩:=fc4 BK188.out)|((with_reducible refine gate_callee (f:=64) rfl ?_);refine goesL_ (some 46) rfl rfl Try.func64 (by kernel_rfl) rfl #[.int .i64 (wrap64 (x189002_1)), .int .i64 4] rfl (by (try simp only [m1,m2,m3]);first|done|rfl) ?_;(with_reducible refine (spec_l01Digits.calls k1 (wrap64 (x189002_1)) 4 t227 _ A45.out).mono ?_);rintro e w56 ⟨v228,rfl,ho0,hb⟩;refine ⟨_,rfl,?_⟩;have _:=qm (Kd.R_elder' HO223.out (Kd.R_base ho0) hb);have _:=qm (Kd.R_elder' HO226.out (Kd.R_base ho0) hb);have _:=qm (Kd.R_lower (nw (nw ho0 HO223.out) HO226.out) (qs HB.out));have _:=qm (qv (g:=gb188) BK188.out hb);have _:=qm (qt HB.out hb);clear HO223 HO226 BK188 HB;rename_i HO223 HO226 HO229 BK188 HB;obtain ⟨Ao58,co58,eo58⟩:=Kd.R_slice HO229.out;subst eo58)|((with_reducible refine gate_builtin (b:= .append) (xs:=#[.tmp 42, .tmp 46]) rfl ?_);at_builtin;refine Kd.R_append_rows (Kd.int .u8) (w0:=w) w.heap.size rfl (.tmp 42) (.tmp 46) 22 5 (.int .u8 0) 1 rfl Try.underlying22 info5 rfl (by decide) (by omega) v225 y224 t227 _ _ _ (fun k_=>ob k_ (.slice Ao54 t221.length co54)∧ob k_ (.slice Ao58 t227.length co58)) (fun _=>False) rfl rfl ?aO ?aR (fun _ _ h=>h) (fun _ h=>h.elim) ?aF ?aB ?aS ?aL ?_;(case aR=>exact cb ((qe HO229.out).2.2));(case aB=>exact HB.out);(case aF=>exact (fun k_ hk=>⟨Kd.fresh' (Kd.R_lt HO223.out) k_ hk,Kd.fresh' (Kd.R_lt HO229.out) k_ hk⟩));(case aO=>exact HO226.out);(case aS=>exact (qs HB.out));(case aL=>have:=LMc46.out;omega);intro v231 w57 ho hb hg hat;rw [←Ny230.out] at ho;have _:=qm (blk_grown (g:=gb188) BK188.out hg (Kd.R_ne HO226.out BK188.out (by decide)));have _:=qm (Kd.R_after (ok:=(fun k_=>ob k_ (.slice Ao58 t227.length co58))) (rb (qg HO223.out (fun _ hk=>⟨hk.2,hk.1.2⟩))) hg hat);have _:=qm (Kd.R_after (ok:=(fun k_=>ob k_ (.slice Ao54 t221.length co54))) (rb (qg HO229.out (fun _ hk=>⟨hk.1.2,hk.2⟩))) hg hat);have _:=qm (hb);have _:=qm (ho);clear BK188 HO223 HO229 HB HO226;rename_i BK188 HO223 HO229 HB HO232;clear ho hb hg hat;obtain ⟨_,_,_,_,_,_,_,_⟩:=fc4 BK188.out)|((with_reducible refine gate_callee (f:=64) rfl ?_);refine goesL_ (some 52) rfl rfl Try.func64 (by kernel_rfl) rfl #[.int .i64 (wrap64 (x189003_1)), .int .i64 4] rfl (by (try simp only [m1,m2,m3]);first|done|rfl) ?_;(with_reducible refine (spec_l01Digits.calls k1 (wrap64 (x189003_1)) 4 t233 _ A47.out).mono ?_);rintro e w60 ⟨v234,rfl,ho0,hb⟩;refine ⟨_,rfl,?_⟩;have _:=qm (Kd.R_elder' HO223.out (Kd.R_base ho0) hb);have _:=qm (Kd.R_elder' HO229.out (Kd.R_base ho0) hb);have _:=qm (Kd.R_elder' HO232.out (Kd.R_base ho0) hb);have _:=qm (Kd.R_lower (nw (nw (nw ho0 HO223.out) HO229.out) HO232.out) (qs HB.out));have _:=qm (qv (g:=gb188) BK188.out hb);have _:=qm (qt HB.out hb);clear HO223 HO229 HO232 BK188 HB;rename_i HO223 HO229 HO232 HO235 BK188 HB;obtain ⟨Ao62,co62,eo62⟩:=Kd.R_slice HO235.out;subst eo62)|((with_reducible refine gate_builtin (b:= .append) (xs:=#[.tmp 48, .tmp 52]) rfl ?_);at_builtin;refine Kd.R_append_rows (Kd.int .u8) (w0:=w) w.heap.size rfl (.tmp 48) (.tmp 52) 22 5 (.int .u8 0) 1 rfl Try.underlying22 info5 rfl (by decide) (by omega) v231 y230 t233 _ _ _ (fun k_=>ob k_ (.slice Ao54 t221.length co54)∧ob k_ (.slice Ao58 t227.length co58)∧ob k_ (.slice Ao62 t233.length co62)) (fun _=>False) rfl rfl ?aO ?aR (fun _ _ h=>h) (fun _ h=>h.elim) ?aF ?aB ?aS ?aL ?_;(case aR=>exact cb ((qe HO235.out).2.2));(case aB=>exact HB.out);(case aF=>exact (fun k_ hk=>⟨Kd.fresh' (Kd.R_lt HO223.out) k_ hk,Kd.fresh' (Kd.R_lt HO229.out) k_ hk,Kd.fresh' (Kd.R_lt HO235.out) k_ hk⟩));(case aO=>exact (rb (qg HO232.out (fun _ hk=>⟨hk.1.1,⟨hk.1.2,hk.2⟩⟩))));(case aS=>exact (qs HB.out));(case aL=>have:=LMc48.out;omega);intro v237 w61 ho hb hg hat;rw [←Ny236.out] at ho;have _:=qm (blk_grown (g:=gb188) BK188.out hg (Kd.R_ne HO232.out BK188.out (by decide)));have _:=qm (Kd.R_after (ok:=(fun k_=>ob k_ (.slice Ao58 t227.length co58)∧ob k_ (.slice Ao62 t233.length co62))) (rb (qg HO223.out (fun _ hk=>⟨⟨hk.1.1,hk.2⟩,hk.1.2⟩))) hg hat);have _:=qm (Kd.R_after (ok:=(fun k_=>ob k_ (.slice Ao54 t221.length co54)∧ob k_ (.slice Ao62 t233.length co62))) (rb (qg HO229.out (fun _ hk=>⟨⟨hk.1.1,hk.2⟩,hk.1.2⟩))) hg hat);have _:=qm (Kd.R_after (ok:=(fun k_=>ob k_ (.slice Ao54 t221.length co54)∧ob k_ (.slice Ao58 t227.length co58))) (rb (qg HO235.out (fun _ hk=>⟨⟨hk.1.1.2,hk.1.2⟩,hk.2⟩))) hg hat);have _:=qm (hb);have _:=qm (ho);clear BK188 HO223 HO229 HO235 HB HO232;rename_i BK188 HO223 HO229 HO235 HB HO238;clear ho hb hg hat))
     go_ret
     exact ⟨_,by first|rfl|(simp <;> rfl)|(simp [*] <;> rfl),by (with_reducible repeat (first|apply qb|apply qc|apply qd));exact qg HO238.out (fun _ hk=>trivial),HB.out⟩
    rw [if_neg c48] at H
    exact absurd H (by simp)
   rw [if_neg c46] at H
   exact absurd H (by simp)
  rw [if_neg c44] at H
  exact absurd H (by simp)
def spec_l03Copy.f (l0:List Int):Option (List Int):=(some (([]:List Int):List Int)).bind fun y239=>(if y239.length+l0.length<140737488355328 then (some (y239 ++ l0)) else (none))
set_option maxHeartbeats 8000000 in
set_option maxRecDepth 100000 in
theorem spec_l03Copy.calls (A0:Option Addr) (c0:Nat) (l0:List Int) (r:List Int) (w:World) (hr0:Kd.C (Kd.int .u8) w A0 l0.length l0) (hc0:l0.length≤c0) (h:spec_l03Copy.f l0=some r) :
  Calls Try.prog 52 #[.slice A0 l0.length c0] w fun e w' =>∃ v0_:Value,e = .returned (v0_)∧Kd.R (Kd.int .u8) 5 w' w.heap.size (fun _=>True) v0_ r∧Below w.heap.size w w' :=by
 have HR0:=qm hr0
 have HC0:=qm hc0
 clear hr0 hc0
 have HB:=qm (Below.refl w.heap.size w)
 have H:((some (([]:List Int):List Int)).bind fun y239=>(if y239.length+l0.length<140737488355328 then (some (y239 ++ l0)) else (none)))=some r:=h
 clear h
 obtain ⟨y239,hy239⟩:∃ y_:List Int,y_=(([]:List Int)):=⟨_,rfl⟩
 replace H:(if y239.length+l0.length<140737488355328 then (some (y239 ++ l0)) else (none))=some r:=by first|(rw [hy239];with_reducible exact H)|(have H2_:=(Option.bind_some _ _).symm.trans H;rw [hy239];with_reducible exact H2_)|(have H2_:=(Option.bind_some _ _).symm.trans H;with_reducible exact H2_)|with_reducible exact H|(rw [hy239];exact H)|exact H
 have Ny239:=qm hy239
 clear hy239
 by_cases c2:y239.length+l0.length<140737488355328
 ·rw [if_pos c2] at H
  have LMc2:=qm c2
  clear c2
  obtain ⟨y242,hy242⟩:∃ y_:List Int,y_=(y239 ++ l0):=⟨_,rfl⟩
  replace H:(some y242)=some r:=by first|(rw [hy242];with_reducible exact H)|(have H2_:=(Option.bind_some _ _).symm.trans H;rw [hy242];with_reducible exact H2_)|(have H2_:=(Option.bind_some _ _).symm.trans H;with_reducible exact H2_)|with_reducible exact H|(rw [hy242];exact H)|exact H
  have Ny242:=qm hy242
  clear hy242
  obtain rfl:=Option.some.inj H
  go_enter Try.func52,Try.ntmps52
  go_wp2_with (first|((with_reducible refine gate_dst (N:=3) rfl ?_);refine Kd.R_lit (Kd.int .u8) _ 5 ?hg (N:=3) ?hd (xs:=([]:List Int)) (inner:=[]) (ok:=fun _=>True) (okp:=fun _=>True) ?hr ?hp (fun _ hk=>hk) trivial (Below.refl _ _) (Nat.le_refl _) (by simp) ?_;(case hd=>rfl);(case hg=>rfl);(case hr=>first|(go_simp;done)|(go_simp;rfl));(case hp=>exact (Reps.none _ _));intro v240 w3 ho4 hb hg_ hnew_;clear hg_ hnew_;(first|rw [←Ny239.out] at ho4|(simp only [Int.reduceToNat] at ho4;rw [←Ny239.out] at ho4));have _:=qm (Kd.R_lower ho4 (qs HB.out));have _:=qm (qt HB.out hb);clear HB;rename_i HO241 HB;clear hb ho4)|((with_reducible refine gate_builtin (b:= .append) (xs:=#[.tmp 3, .tmp 4]) rfl ?_);at_builtin;refine Kd.R_append_rows (Kd.int .u8) (w0:=w) w.heap.size rfl (.tmp 3) (.tmp 4) 22 5 (.int .u8 0) 1 rfl Try.underlying22 info5 rfl (by decide) (by omega) v240 y239 l0 _ _ _ (fun _=>True) (fun _=>False) rfl rfl ?aO ?aR (fun _ _ h=>h) (fun _ h=>h.elim) ?aF ?aB ?aS ?aL ?_;(case aR=>exact cb (Kd.C_below HR0.out HB.out));(case aB=>exact HB.out);(case aF=>exact (fun _ _=>trivial));(case aO=>exact HO241.out);(case aS=>exact (qs HB.out));(case aL=>have:=LMc2.out;omega);intro v243 w5 ho hb hg hat;rw [←Ny242.out] at ho;have _:=qm (hb);have _:=qm (ho);clear HB HO241;rename_i HB HO244;clear ho hb hg hat))
  go_ret
  exact ⟨_,by first|rfl|(simp <;> rfl)|(simp [*] <;> rfl),HO244.out,HB.out⟩
 rw [if_neg c2] at H
 exact absurd H (by simp)
def spec_l03KeysOK.f (l0_0:List Int) (l0_1:List Int) (l0_2:List Int) (l0_3:List Int):Option (Bool):=if (l0_0.length:Int)=16 then (if (l0_1.length:Int)=16 then (if (l0_2.length:Int)=8 then (some ((l0_3.length:Int) == 16)) else (some false)) else (some false)) else (some false)
set_option maxHeartbeats 8000000 in
set_option maxRecDepth 100000 in
theorem spec_l03KeysOK.calls (A0_0:Option Addr) (c0_0:Nat) (l0_0:List Int) (A0_1:Option Addr) (c0_1:Nat) (l0_1:List Int) (A0_2:Option Addr) (c0_2:Nat) (l0_2:List Int) (A0_3:Option Addr) (c0_3:Nat) (l0_3:List Int) (r:Bool) (w:World) (hr0_0:Kd.C (Kd.int .u8) w A0_0 l0_0.length l0_0) (hc0_0:l0_0.length≤c0_0) (hr0_1:Kd.C (Kd.int .u8) w A0_1 l0_1.length l0_1) (hc0_1:l0_1.length≤c0_1) (hr0_2:Kd.C (Kd.int .u8) w A0_2 l0_2.length l0_2) (hc0_2:l0_2.length≤c0_2) (hr0_3:Kd.C (Kd.int .u8) w A0_3 l0_3.length l0_3) (hc0_3:l0_3.length≤c0_3) (h:spec_l03KeysOK.f l0_0 l0_1 l0_2 l0_3=some r) :
  Calls Try.prog 55 #[.agg #[.slice A0_0 l0_0.length c0_0, .slice A0_1 l0_1.length c0_1, .slice A0_2 l0_2.length c0_2, .slice A0_3 l0_3.length c0_3]] w fun e w' =>e = .returned (.bool r)∧Below w.heap.size w w' :=by
 have hu33:=Try.underlying33
 have HR0_0:=qm hr0_0
 have HC0_0:=qm hc0_0
 clear hr0_0 hc0_0
 have HR0_1:=qm hr0_1
 have HC0_1:=qm hc0_1
 clear hr0_1 hc0_1
 have HR0_2:=qm hr0_2
 have HC0_2:=qm hc0_2
 clear hr0_2 hc0_2
 have HR0_3:=qm hr0_3
 have HC0_3:=qm hc0_3
 clear hr0_3 hc0_3
 have HB:=qm (Below.refl w.heap.size w)
 have H:(if (l0_0.length:Int)=16 then (if (l0_1.length:Int)=16 then (if (l0_2.length:Int)=8 then (some ((l0_3.length:Int) == 16)) else (some false)) else (some false)) else (some false))=some r:=h
 clear h
 by_cases c2:(l0_0.length:Int)=16
 ·rw [if_pos c2] at H
  have c2b0:((l0_0.length:Int) == 16)=true:=beq_iff_eq.mpr c2
  have c2b1:((l0_0.length:Int) != 16)=false:=bne_eq_false_iff_eq.mpr c2
  clear c2
  by_cases c3:(l0_1.length:Int)=16
  ·rw [if_pos c3] at H
   have c3b0:((l0_1.length:Int) == 16)=true:=beq_iff_eq.mpr c3
   have c3b1:((l0_1.length:Int) != 16)=false:=bne_eq_false_iff_eq.mpr c3
   clear c3
   by_cases c4:(l0_2.length:Int)=8
   ·rw [if_pos c4] at H
    have c4b0:((l0_2.length:Int) == 8)=true:=beq_iff_eq.mpr c4
    have c4b1:((l0_2.length:Int) != 8)=false:=bne_eq_false_iff_eq.mpr c4
    clear c4
    obtain rfl:=Option.some.inj H
    go_enter Try.func55,Try.ntmps55
    go_wp2_with (first|((with_reducible refine gate_dst (N:=1) rfl ?_);(try (refine gate_guard (by rfl) ?_;dsimp only));refine box_event (by rfl) (N:=1) (by rfl) (cs:=#[.slice A0_0 l0_0.length c0_0, .slice A0_1 l0_1.length c0_1, .slice A0_2 l0_2.length c0_2, .slice A0_3 l0_3.length c0_3]) (t:=33) (by first|(go_simp;done)|(go_simp;rfl)) ?_;intro gb245 hg w5 hbox hb;have _:=qm (qt HB.out hb);have _:=qm (hbox);have _:=qm ((gs hg (qs HB.out)));have _:=qm ((gs hg (qs HB.out)));clear HB;rename_i HB BK245 GW245 GE245;clear hb hbox hg;obtain ⟨_,_,_,_,_,_,_,_⟩:=fc4 BK245.out))
    go_ret
    exact ⟨by first|rfl|(simp <;> rfl)|(simp [*] <;> rfl),HB.out⟩
   rw [if_neg c4] at H
   have c4b0:((l0_2.length:Int) == 8)=false:=beq_eq_false_iff_ne.mpr c4
   have c4b1:((l0_2.length:Int) != 8)=true:=bne_iff_ne.mpr c4
   obtain rfl:=Option.some.inj H
   go_enter Try.func55,Try.ntmps55
   go_wp2_with (first|((with_reducible refine gate_dst (N:=1) rfl ?_);(try (refine gate_guard (by rfl) ?_;dsimp only));refine box_event (by rfl) (N:=1) (by rfl) (cs:=#[.slice A0_0 l0_0.length c0_0, .slice A0_1 l0_1.length c0_1, .slice A0_2 l0_2.length c0_2, .slice A0_3 l0_3.length c0_3]) (t:=33) (by first|(go_simp;done)|(go_simp;rfl)) ?_;intro gb245 hg w7 hbox hb;have _:=qm (qt HB.out hb);have _:=qm (hbox);have _:=qm ((gs hg (qs HB.out)));have _:=qm ((gs hg (qs HB.out)));clear HB;rename_i HB BK245 GW245 GE245;clear hb hbox hg;obtain ⟨_,_,_,_,_,_,_,_⟩:=fc4 BK245.out))
   go_ret
   exact ⟨by first|rfl|(simp <;> rfl)|(simp [*] <;> rfl),HB.out⟩
  rw [if_neg c3] at H
  have c3b0:((l0_1.length:Int) == 16)=false:=beq_eq_false_iff_ne.mpr c3
  have c3b1:((l0_1.length:Int) != 16)=true:=bne_iff_ne.mpr c3
  obtain rfl:=Option.some.inj H
  go_enter Try.func55,Try.ntmps55
  go_wp2_with (first|((with_reducible refine gate_dst (N:=1) rfl ?_);(try (refine gate_guard (by rfl) ?_;dsimp only));refine box_event (by rfl) (N:=1) (by rfl) (cs:=#[.slice A0_0 l0_0.length c0_0, .slice A0_1 l0_1.length c0_1, .slice A0_2 l0_2.length c0_2, .slice A0_3 l0_3.length c0_3]) (t:=33) (by first|(go_simp;done)|(go_simp;rfl)) ?_;intro gb245 hg w9 hbox hb;have _:=qm (qt HB.out hb);have _:=qm (hbox);have _:=qm ((gs hg (qs HB.out)));have _:=qm ((gs hg (qs HB.out)));clear HB;rename_i HB BK245 GW245 GE245;clear hb hbox hg;obtain ⟨_,_,_,_,_,_,_,_⟩:=fc4 BK245.out))
  go_ret
  exact ⟨by first|rfl|(simp <;> rfl)|(simp [*] <;> rfl),HB.out⟩
 rw [if_neg c2] at H
 have c2b0:((l0_0.length:Int) == 16)=false:=beq_eq_false_iff_ne.mpr c2
 have c2b1:((l0_0.length:Int) != 16)=true:=bne_iff_ne.mpr c2
 obtain rfl:=Option.some.inj H
 go_enter Try.func55,Try.ntmps55
 go_wp2_with (first|((with_reducible refine gate_dst (N:=1) rfl ?_);(try (refine gate_guard (by rfl) ?_;dsimp only));refine box_event (by rfl) (N:=1) (by rfl) (cs:=#[.slice A0_0 l0_0.length c0_0, .slice A0_1 l0_1.length c0_1, .slice A0_2 l0_2.length c0_2, .slice A0_3 l0_3.length c0_3]) (t:=33) (by first|(go_simp;done)|(go_simp;rfl)) ?_;intro gb245 hg w11 hbox hb;have _:=qm (qt HB.out hb);have _:=qm (hbox);have _:=qm ((gs hg (qs HB.out)));have _:=qm ((gs hg (qs HB.out)));clear HB;rename_i HB BK245 GW245 GE245;clear hb hbox hg;obtain ⟨_,_,_,_,_,_,_,_⟩:=fc4 BK245.out))
 go_ret
 exact ⟨by first|rfl|(simp <;> rfl)|(simp [*] <;> rfl),HB.out⟩
def spec_HeadMask.j0:Nat→List Int→Bool→List Int→List Int→List Int→List Int→Option (List Int)
 |0,_,_,_,_,_,_=>none
 |k+1,x1,x12,x247000,x247001,x247002,x247003=>if x12=true then (some (([]:List Int))) else ((spec_l03Digest.f k x247003 x1).bind fun t251=>(if 5≤(t251.length:Int) then ((spec_l03Copy.f (t251.take 5)).bind fun t258=>(some t258)) else (none)))
def spec_HeadMask.f (k:Nat) (l0_0:List Int) (l0_1:List Int) (l0_2:List Int) (l0_3:List Int) (l1:List Int):Option (List Int):=(spec_l03KeysOK.f l0_0 l0_1 l0_2 l0_3).bind fun t247=>(if t247=true then (spec_HeadMask.j0 k l1 ((l1.length:Int) != 8) l0_0 l0_1 l0_2 l0_3) else (spec_HeadMask.j0 k l1 true l0_0 l0_1 l0_2 l0_3))
set_option maxHeartbeats 8000000 in
set_option maxRecDepth 100000 in
theorem spec_HeadMask.calls (k:Nat) (A0_0:Option Addr) (c0_0:Nat) (l0_0:List Int) (A0_1:Option Addr) (c0_1:Nat) (l0_1:List Int) (A0_2:Option Addr) (c0_2:Nat) (l0_2:List Int) (A0_3:Option Addr) (c0_3:Nat) (l0_3:List Int) (A1:Option Addr) (c1:Nat) (l1:List Int) (r:List Int) (w:World) (hr0_0:Kd.C (Kd.int .u8) w A0_0 l0_0.length l0_0) (hc0_0:l0_0.length≤c0_0) (hr0_1:Kd.C (Kd.int .u8) w A0_1 l0_1.length l0_1) (hc0_1:l0_1.length≤c0_1) (hr0_2:Kd.C (Kd.int .u8) w A0_2 l0_2.length l0_2) (hc0_2:l0_2.length≤c0_2) (hr0_3:Kd.C (Kd.int .u8) w A0_3 l0_3.length l0_3) (hc0_3:l0_3.length≤c0_3) (hr1:Kd.C (Kd.int .u8) w A1 l1.length l1) (hc1:l1.length≤c1) (h:spec_HeadMask.f k l0_0 l0_1 l0_2 l0_3 l1=some r) :
  Calls Try.prog 25 #[.agg #[.slice A0_0 l0_0.length c0_0, .slice A0_1 l0_1.length c0_1, .slice A0_2 l0_2.length c0_2, .slice A0_3 l0_3.length c0_3], .slice A1 l1.length c1] w fun e w' =>∃ v0_:Value,e = .returned (v0_)∧Kd.R (Kd.int .u8) 5 w' w.heap.size (fun _=>True) v0_ r∧Below w.heap.size w w' :=by
 have hu33:=Try.underlying33
 have HR0_0:=qm hr0_0
 have HC0_0:=qm hc0_0
 clear hr0_0 hc0_0
 have HR0_1:=qm hr0_1
 have HC0_1:=qm hc0_1
 clear hr0_1 hc0_1
 have HR0_2:=qm hr0_2
 have HC0_2:=qm hc0_2
 clear hr0_2 hc0_2
 have HR0_3:=qm hr0_3
 have HC0_3:=qm hc0_3
 clear hr0_3 hc0_3
 have HR1:=qm hr1
 have HC1:=qm hc1
 clear hr1 hc1
 have HB:=qm (Below.refl w.heap.size w)
 have H:((spec_l03KeysOK.f l0_0 l0_1 l0_2 l0_3).bind fun t247=>(if t247=true then (spec_HeadMask.j0 k l1 ((l1.length:Int) != 8) l0_0 l0_1 l0_2 l0_3) else (spec_HeadMask.j0 k l1 true l0_0 l0_1 l0_2 l0_3)))=some r:=h
 clear h
 have HC3:=qm H
 clear H
 go_enter Try.func25,Try.ntmps25
 go_upto_region 1 with (first|((with_reducible refine gate_dst (N:=2) rfl ?_);(try (refine gate_guard (by rfl) ?_;dsimp only));refine box_event (by rfl) (N:=2) (by rfl) (cs:=#[.slice A0_0 l0_0.length c0_0, .slice A0_1 l0_1.length c0_1, .slice A0_2 l0_2.length c0_2, .slice A0_3 l0_3.length c0_3]) (t:=33) (by first|(go_simp;done)|(go_simp;rfl)) ?_;intro gb246 hg w4 hbox hb;have _:=qm (qt HB.out hb);have _:=qm (hbox);have _:=qm ((gs hg (qs HB.out)));have _:=qm ((gs hg (qs HB.out)));clear HB;rename_i HB BK246 GW246 GE246;clear hb hbox hg))
 (try simp only [Act.put,s1,s2,s3])
 go_cut [12] (fun v12 wc=>∃ (kq:Nat) (x12_2:Bool),v12 = .bool x12_2∧Aside0 (spec_HeadMask.j0 kq l1 x12_2 l0_0 l0_1 l0_2 l0_3=some r)∧Aside0 (kq≤k)∧Aside0 (wc.heap[gb246]? =some (.cells #[(.slice A0_0 l0_0.length c0_0),(.slice A0_1 l0_1.length c0_1),(.slice A0_2 l0_2.length c0_2),(.slice A0_3 l0_3.length c0_3)] 33 (0,0)))∧Aside0 (Below w.heap.size w wc))
 case first=>
  have H:=HC3.out
  clear HC3
  replace H:=Option.bind_eq_some_iff.mp H
  obtain ⟨t247,A50,H⟩:=H
  try dsimp only at H
  have A5:=qm A50
  clear A50
  by_cases c6:t247=true
  ·subst c6
   rw [if_pos rfl] at H
   have H' :=qm H
   clear H
   obtain ⟨_,_,_,_,_,_,_,_⟩:=fc4 BK246.out
   go_wp2_with (first|((with_reducible refine gate_callee (f:=55) rfl ?_);refine goesL_ (some 6) rfl rfl Try.func55 (by kernel_rfl) rfl #[.agg #[.slice A0_0 l0_0.length c0_0, .slice A0_1 l0_1.length c0_1, .slice A0_2 l0_2.length c0_2, .slice A0_3 l0_3.length c0_3]] rfl (by (try simp only [m1,m2,m3]);first|done|rfl) ?_;(with_reducible refine (spec_l03KeysOK.calls _ _ l0_0 _ _ l0_1 _ _ l0_2 _ _ l0_3 true _ ?side1 ?side2 ?side3 ?side4 ?side5 ?side6 ?side7 ?side8 A5.out).mono ?_);(case side1=>exact cb (Kd.C_below HR0_0.out HB.out));(case side2=>exact HC0_0.out);(case side3=>exact cb (Kd.C_below HR0_1.out HB.out));(case side4=>exact HC0_1.out);(case side5=>exact cb (Kd.C_below HR0_2.out HB.out));(case side6=>exact HC0_2.out);(case side7=>exact cb (Kd.C_below HR0_3.out HB.out));(case side8=>exact HC0_3.out);rintro e w8 ⟨rfl,hb⟩;refine ⟨_,rfl,?_⟩;have _:=qm (qv (g:=gb246) BK246.out hb);have _:=qm (qt HB.out hb);clear BK246 HB;rename_i BK246 HB))
   go_meet
   case rel=>exact ⟨_,(((l1.length:Int) != 8)),rfl,H',⟨by first|omega|exact Nat.le_refl _⟩,⟨BK246.out⟩,⟨HB.out⟩⟩
  replace c6:=Bool.eq_false_iff.mpr c6
  subst c6
  rw [if_neg nt] at H
  have H' :=qm H
  clear H
  obtain ⟨_,_,_,_,_,_,_,_⟩:=fc4 BK246.out
  go_wp2_with (first|((with_reducible refine gate_callee (f:=55) rfl ?_);refine goesL_ (some 6) rfl rfl Try.func55 (by kernel_rfl) rfl #[.agg #[.slice A0_0 l0_0.length c0_0, .slice A0_1 l0_1.length c0_1, .slice A0_2 l0_2.length c0_2, .slice A0_3 l0_3.length c0_3]] rfl (by (try simp only [m1,m2,m3]);first|done|rfl) ?_;(with_reducible refine (spec_l03KeysOK.calls _ _ l0_0 _ _ l0_1 _ _ l0_2 _ _ l0_3 false _ ?side1 ?side2 ?side3 ?side4 ?side5 ?side6 ?side7 ?side8 A5.out).mono ?_);(case side1=>exact cb (Kd.C_below HR0_0.out HB.out));(case side2=>exact HC0_0.out);(case side3=>exact cb (Kd.C_below HR0_1.out HB.out));(case side4=>exact HC0_1.out);(case side5=>exact cb (Kd.C_below HR0_2.out HB.out));(case side6=>exact HC0_2.out);(case side7=>exact cb (Kd.C_below HR0_3.out HB.out));(case side8=>exact HC0_3.out);rintro e w10 ⟨rfl,hb⟩;refine ⟨_,rfl,?_⟩;have _:=qm (qv (g:=gb246) BK246.out hb);have _:=qm (qt HB.out hb);clear BK246 HB;rename_i BK246 HB))
  go_meet
  case rel=>exact ⟨_,(true),rfl,H',⟨by first|omega|exact Nat.le_refl _⟩,⟨BK246.out⟩,⟨HB.out⟩⟩
 clear HC3
 try clear c1
 obtain ⟨kq,x12_2,rfl,HA,HJ2,BK246,HB⟩:=hcut
 cases kq with
 |zero=>exact absurd HA.out (by simp [spec_HeadMask.j0])
 |succ kj2=>?_
 have H:=HA.out
 clear HA
 simp only [spec_HeadMask.j0] at H
 by_cases c11:x12_2=true
 ·subst c11
  rw [if_pos rfl] at H
  obtain ⟨y248,hy248⟩:∃ y_:List Int,y_=(([]:List Int)):=⟨_,rfl⟩
  replace H:(some y248)=some r:=by first|(rw [hy248];with_reducible exact H)|(have H2_:=(Option.bind_some _ _).symm.trans H;rw [hy248];with_reducible exact H2_)|(have H2_:=(Option.bind_some _ _).symm.trans H;with_reducible exact H2_)|with_reducible exact H|(rw [hy248];exact H)|exact H
  have Ny248:=qm hy248
  clear hy248
  obtain rfl:=Option.some.inj H
  go_wp2_with (first|((with_reducible refine gate_dst (N:=13) rfl ?_);(try (refine gate_guard (by rfl) ?_;dsimp only));refine Kd.R_lit (Kd.int .u8) _ 5 ?hg (N:=13) ?hd (xs:=([]:List Int)) (inner:=[]) (ok:=fun _=>True) (okp:=fun _=>True) ?hr ?hp (fun _ hk=>hk) trivial (Below.refl _ _) (Nat.le_refl _) (by simp) ?_;(case hd=>rfl);(case hg=>rfl);(case hr=>first|(go_simp;done)|(go_simp;rfl));(case hp=>exact (Reps.none _ _));intro v249 w12 ho13 hb hg_ hnew_;clear hg_ hnew_;(first|rw [←Ny248.out] at ho13|(simp only [Int.reduceToNat] at ho13;rw [←Ny248.out] at ho13));have _:=qm (Kd.R_lower ho13 (qs HB.out));have _:=qm (qv (g:=gb246) BK246.out hb);have _:=qm (qt HB.out hb);clear BK246 HB;rename_i HO250 BK246 HB;clear hb ho13))
  go_ret
  exact ⟨_,by first|rfl|(simp <;> rfl)|(simp [*] <;> rfl),HO250.out,HB.out⟩
 replace c11:=Bool.eq_false_iff.mpr c11
 subst c11
 rw [if_neg nt] at H
 replace H:=Option.bind_eq_some_iff.mp H
 obtain ⟨t251,A140,H⟩:=H
 try dsimp only at H
 have A14:=qm A140
 clear A140
 by_cases c15:5≤(t251.length:Int)
 ·rw [if_pos c15] at H
  have c15b0:=eq_true c15
  have c15b1:decide (5≤(t251.length:Int))=true:=decide_eq_true c15
  clear c15
  obtain ⟨y254,hy254⟩:∃ y_:List Int,y_=(t251.take 5):=⟨_,rfl⟩
  replace H:((spec_l03Copy.f y254).bind fun t258=>(some t258))=some r:=by first|(rw [hy254];with_reducible exact H)|(have H2_:=(Option.bind_some _ _).symm.trans H;rw [hy254];with_reducible exact H2_)|(have H2_:=(Option.bind_some _ _).symm.trans H;with_reducible exact H2_)|with_reducible exact H|(rw [hy254];exact H)|exact H
  have Ny254:=qm hy254
  clear hy254
  replace H:=Option.bind_eq_some_iff.mp H
  obtain ⟨t258,A160,H⟩:=H
  replace H:(some t258)=some r:=H
  have A16:=qm A160
  clear A160
  obtain rfl:=Option.some.inj H
  obtain ⟨_,_,_,_,_,_,_,_⟩:=fc4 BK246.out
  go_wp2_with (first|((with_reducible refine gate_callee (f:=49) rfl ?_);refine goesL_ (some 17) rfl rfl Try.func49 (by kernel_rfl) rfl #[.slice A0_3 l0_3.length c0_3, .slice A1 l1.length c1] rfl (by (try simp only [m1,m2,m3]);first|done|rfl) ?_;(with_reducible refine (spec_l03Digest.calls kj2 _ _ l0_3 _ _ l1 t251 _ ?side1 ?side2 ?side3 ?side4 A14.out).mono ?_);(case side1=>exact cb (Kd.C_below HR0_3.out HB.out));(case side2=>exact HC0_3.out);(case side3=>exact cb (Kd.C_below HR1.out HB.out));(case side4=>exact HC1.out);rintro e w18 ⟨v252,rfl,ho0,hb⟩;refine ⟨_,rfl,?_⟩;have _:=qm (Kd.R_lower ho0 (qs HB.out));have _:=qm (qv (g:=gb246) BK246.out hb);have _:=qm (qt HB.out hb);clear BK246 HB;rename_i HO253 BK246 HB;obtain ⟨Ao20,co20,eo20⟩:=Kd.R_slice HO253.out;subst eo20;have q19:(5:Int)≤((t251.length:Int):Int):=of_decide_eq_true (by assumption);obtain ⟨i019,hi019,_,hsz19,_⟩:=info_parts info5;have hroom19:t251.length≤co20:=(qe HO253.out).2.1;have hC19:Kd.C (Kd.int .u8) _ Ao20 t251.length t251:=(qe HO253.out).2.2;have hcut19:=cut_to (P:=Try.prog) 22 5 .i64 Try.underlying22 hi019 Ao20 t251.length co20 5 (by omega) q19 hroom19;have hr19:=Kd.C_take (m:=5) hC19 (by omega);have hy19:y254.length=(5:Int).toNat:=(by rw [Ny254.out,List.length_take];omega);rw [←Ny254.out] at hr19;rw [←hy19] at hcut19;have HR257:=qm hr19;have HC257:=qm (show y254.length≤co20 from by omega);clear hr19 hC19 hroom19 hi019 hsz19;have KY19:=qm hy19;clear hy19;have KL19:=qm (show 5≤t251.length from by omega);replace q19:=eq_true q19)|((with_reducible refine gate_callee (f:=52) rfl ?_);refine goesL_ (some 19) rfl rfl Try.func52 (by kernel_rfl) rfl #[.slice Ao20 y254.length co20] rfl (by (try simp only [m1,m2,m3]);first|done|rfl) ?_;(with_reducible refine (spec_l03Copy.calls _ _ y254 t258 _ ?side1 ?side2 A16.out).mono ?_);(case side1=>exact cb (by repeat (first|(with_reducible exact HR257.out)|(with_reducible refine Kd.C_alloc ?_ _)|(with_reducible refine Kd.C_drewN ?_ _)|(with_reducible refine Kd.C_drew ?_)|exact HR257.out)));(case side2=>exact HC257.out);rintro e w21 ⟨v259,rfl,ho0,hb⟩;refine ⟨_,rfl,?_⟩;have _:=qm (Kd.R_elder' HO253.out (Kd.R_base ho0) hb);have _:=qm (Kd.R_lower (nw ho0 HO253.out) (qs HB.out));have _:=qm (qv (g:=gb246) BK246.out hb);have _:=qm (Kd.C_below (by repeat (first|(with_reducible exact HR257.out)|(with_reducible refine Kd.C_alloc ?_ _)|(with_reducible refine Kd.C_drewN ?_ _)|(with_reducible refine Kd.C_drew ?_)|exact HR257.out)) hb);have _:=qm (qt HB.out hb);clear HO253 BK246 HR257 HB;rename_i HO253 HO260 BK246 HR257 HB))
  go_ret
  exact ⟨_,by first|rfl|(simp <;> rfl)|(simp [*] <;> rfl),by (with_reducible repeat (first|apply qb|apply qc|apply qd));exact qg HO260.out (fun _ hk=>trivial),HB.out⟩
 rw [if_neg c15] at H
 exact absurd H (by simp)
end Go.Proofs.Ytcdkbdkanjifeaa.SFnExactProtectPacket
