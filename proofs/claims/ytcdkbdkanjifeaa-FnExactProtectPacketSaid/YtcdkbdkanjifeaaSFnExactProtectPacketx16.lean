/- The walk of functions that the law FnExactProtectPacket uses, written by program. -/
import Derived.Test.YtcdkbdkanjifeaaSFnExactProtectPacketx0
import Derived.Test.YtcdkbdkanjifeaaSFnExactProtectPacketx11
import Derived.Test.YtcdkbdkanjifeaaSFnExactProtectPacketx14
import Derived.Test.YtcdkbdkanjifeaaSFnExactProtectPacketx15
import Derived.Test.YtcdkbdkanjifeaaSteps2
import Derived.Test.YtcdkbdkanjifeaaSteps3
namespace Go.Proofs.Ytcdkbdkanjifeaa.SFnExactProtectPacket
open Go.Proofs.Ytcdkbdkanjifeaa.Steps3 Go.Proofs.Ytcdkbdkanjifeaa.Steps2 Go.RowKit Go.Proofs.YtcdkbdkanjifeaaW.PrintWords Go.Proofs.YtcdkbdkanjifeaaW.PrintLast Go.Proofs.YtcdkbdkanjifeaaW.PrintMore
open Go.Proofs.YtcdkbdkanjifeaaW.PrintWords renaming below_alloc → qh, pw_below_drewN → qi, below_drew1 → qj, below_size → qs, below_step → qt, blk_below → qv
open Go.Proofs.YtcdkbdkanjifeaaW.PrintWords.Kd renaming R_alloc → qb, R_drewN → qc, R_drew → qd, R_reads' → qe, R_mono → qg
open Go.Proofs.YtcdkbdkanjifeaaW.PrintWords.Aside0 renaming mk → qm
attribute [local go_sem] max2_int min2_int max_two min_two max_three min_three max_four min_four 
set_option linter.unusedVariables false
set_option linter.unusedSimpArgs false
def impl_headBytes.j0:Nat→Int→Int→Int→Int→List Int→List Int→List Int→Int→Int→Int→Option (List Int)
 |0,_,_,_,_,_,_,_,_,_,_=>none
 |k+1,x1,x6,x622000,x622001,x622002,x622003,x622004,x622005,x622006,x622007=>(impl_longBegin.f k ((wrap64 ((wrap64 ((wrap64 (192+(wrap64 (16*x6))))+x622006)) - 1))%256) x622001 x622002 x622003).bind fun t632=>(if x622000=1 then ((impl_addCounted.f k t632 x622004).bind fun t635=>((some (([(Go.bits .or .i64 64 ((wrap64 (x622006+x1)) / 256))%256,(wrap64 (x622006+x1))%256]:List Int):List Int)).bind fun y638=>(if t635.length+y638.length<140737488355328 then ((impl_CutNum.f x622005 x622006).bind fun t644=>((impl_fixed.f k (t635 ++ y638) t644 x622006).bind fun t645=>(some t645))) else (none)))) else ((some (([(Go.bits .or .i64 64 ((wrap64 (x622006+x1)) / 256))%256,(wrap64 (x622006+x1))%256]:List Int):List Int)).bind fun y648=>(if t632.length+y648.length<140737488355328 then ((impl_CutNum.f x622005 x622006).bind fun t654=>((impl_fixed.f k (t632 ++ y648) t654 x622006).bind fun t655=>(some t655))) else (none))))
def impl_headBytes.f (k:Nat) (a0_0:Int) (a0_1:Int) (l0_2:List Int) (l0_3:List Int) (l0_4:List Int) (a0_5:Int) (a0_6:Int) (a0_7:Int) (a1:Int):Option (List Int):=if a0_0=4 then ((some (([(wrap64 ((wrap64 ((wrap64 (64+(wrap64 (4*a0_7))))+a0_6)) - 1))%256]:List Int):List Int)).bind fun y622=>(if y622.length+l0_2.length<140737488355328 then ((impl_CutNum.f a0_5 a0_6).bind fun t628=>((impl_fixed.f k (y622 ++ l0_2) t628 a0_6).bind fun t629=>(some t629))) else (none))) else (if a0_0=2 then (impl_headBytes.j0 k a1 2 a0_0 a0_1 l0_2 l0_3 l0_4 a0_5 a0_6 a0_7) else (impl_headBytes.j0 k a1 0 a0_0 a0_1 l0_2 l0_3 l0_4 a0_5 a0_6 a0_7))
def impl_headBytes.T13:Bool×List (List Nat×List Nat):=(true,[([],[]),([],[]),([1],[1]),([],[]),([3],[3]),([2,4],[2,4]),([],[]),([6],[6]),([0,5,7,5],[0,5,7]),([8,8,0,1,2,3,4,5,6,7,8],[8])])
def impl_headBytes.B13:List Nat:=[0,0,2,0,8,30,0,64,255,511]
theorem impl_headBytes.tab13:rtab .any (opsOf Try.f75 13)=impl_headBytes.T13:=by kernel_rfl
theorem impl_headBytes.bits13:waitsOk impl_headBytes.T13.2 impl_headBytes.B13=true:=by kernel_rfl
set_option maxHeartbeats 8000000 in
set_option maxRecDepth 100000 in
theorem impl_headBytes.calls (k:Nat) (a0_0:Int) (a0_1:Int) (A0_2:Option Addr) (c0_2:Nat) (l0_2:List Int) (A0_3:Option Addr) (c0_3:Nat) (l0_3:List Int) (A0_4:Option Addr) (c0_4:Nat) (l0_4:List Int) (a0_5:Int) (a0_6:Int) (a0_7:Int) (a1:Int) (r:List Int) (w:World) (hr0_2:Kd.C (Kd.int .u8) w A0_2 l0_2.length l0_2) (hc0_2:l0_2.length≤c0_2) (hr0_3:Kd.C (Kd.int .u8) w A0_3 l0_3.length l0_3) (hc0_3:l0_3.length≤c0_3) (hr0_4:Kd.C (Kd.int .u8) w A0_4 l0_4.length l0_4) (hc0_4:l0_4.length≤c0_4) (h:impl_headBytes.f k a0_0 a0_1 l0_2 l0_3 l0_4 a0_5 a0_6 a0_7 a1=some r) :
  Calls Try.prog 75 #[.agg #[.int .i64 a0_0, .int .i64 a0_1, .slice A0_2 l0_2.length c0_2, .slice A0_3 l0_3.length c0_3, .slice A0_4 l0_4.length c0_4, .int .i64 a0_5, .int .i64 a0_6, .int .i64 a0_7], .int .i64 a1] w fun e w' =>∃ v0_:Value,e = .returned (v0_)∧Kd.R (Kd.int .u8) 5 w' w.heap.size (fun _=>True) v0_ r∧Below w.heap.size w w' :=by
 have hu45:=Try.underlying45
 have HR0_2:=qm hr0_2
 have HC0_2:=qm hc0_2
 clear hr0_2 hc0_2
 have HR0_3:=qm hr0_3
 have HC0_3:=qm hc0_3
 clear hr0_3 hc0_3
 have HR0_4:=qm hr0_4
 have HC0_4:=qm hc0_4
 clear hr0_4 hc0_4
 have HB:=qm (Below.refl w.heap.size w)
 have H:(if a0_0=4 then ((some (([(wrap64 ((wrap64 ((wrap64 (64+(wrap64 (4*a0_7))))+a0_6)) - 1))%256]:List Int):List Int)).bind fun y622=>(if y622.length+l0_2.length<140737488355328 then ((impl_CutNum.f a0_5 a0_6).bind fun t628=>((impl_fixed.f k (y622 ++ l0_2) t628 a0_6).bind fun t629=>(some t629))) else (none))) else (if a0_0=2 then (impl_headBytes.j0 k a1 2 a0_0 a0_1 l0_2 l0_3 l0_4 a0_5 a0_6 a0_7) else (impl_headBytes.j0 k a1 0 a0_0 a0_1 l0_2 l0_3 l0_4 a0_5 a0_6 a0_7)))=some r:=h
 clear h
 by_cases c3:a0_0=4
 ·rw [if_pos c3] at H
  have c3b0:(a0_0 == 4)=true:=beq_iff_eq.mpr c3
  have c3b1:(a0_0 != 4)=false:=bne_eq_false_iff_eq.mpr c3
  clear c3
  obtain ⟨y622,hy622⟩:∃ y_:List Int,y_=(([(wrap64 ((wrap64 ((wrap64 (64+(wrap64 (4*a0_7))))+a0_6)) - 1))%256]:List Int)):=⟨_,rfl⟩
  replace H:(if y622.length+l0_2.length<140737488355328 then ((impl_CutNum.f a0_5 a0_6).bind fun t628=>((impl_fixed.f k (y622 ++ l0_2) t628 a0_6).bind fun t629=>(some t629))) else (none))=some r:=by first|(rw [hy622];with_reducible exact H)|(have H2_:=(Option.bind_some _ _).symm.trans H;rw [hy622];with_reducible exact H2_)|(have H2_:=(Option.bind_some _ _).symm.trans H;with_reducible exact H2_)|with_reducible exact H|(rw [hy622];exact H)|exact H
  have Ny622:=qm hy622
  clear hy622
  by_cases c4:y622.length+l0_2.length<140737488355328
  ·rw [if_pos c4] at H
   have LMc4:=qm c4
   clear c4
   obtain ⟨y625,hy625⟩:∃ y_:List Int,y_=(y622 ++ l0_2):=⟨_,rfl⟩
   replace H:((impl_CutNum.f a0_5 a0_6).bind fun t628=>((impl_fixed.f k y625 t628 a0_6).bind fun t629=>(some t629)))=some r:=by first|(rw [hy625];with_reducible exact H)|(have H2_:=(Option.bind_some _ _).symm.trans H;rw [hy625];with_reducible exact H2_)|(have H2_:=(Option.bind_some _ _).symm.trans H;with_reducible exact H2_)|with_reducible exact H|(rw [hy625];exact H)|exact H
   have Ny625:=qm hy625
   clear hy625
   replace H:=Option.bind_eq_some_iff.mp H
   obtain ⟨t628,A50,H⟩:=H
   try dsimp only at H
   have A5:=qm A50
   clear A50
   replace H:=Option.bind_eq_some_iff.mp H
   obtain ⟨t629,A60,H⟩:=H
   replace H:(some t629)=some r:=H
   have A6:=qm A60
   clear A60
   obtain rfl:=Option.some.inj H
   go_enter Try.func75,Try.ntmps75
   try go_wp2_with (first|((with_reducible refine gate_dst (N:=2) rfl ?_);refine box_event (by rfl) (N:=2) (by rfl) (cs:=#[.int .i64 a0_0, .int .i64 a0_1, .slice A0_2 l0_2.length c0_2, .slice A0_3 l0_3.length c0_3, .slice A0_4 l0_4.length c0_4, .int .i64 a0_5, .int .i64 a0_6, .int .i64 a0_7]) (t:=45) (by first|(go_simp;done)|(go_simp;rfl)) ?_;intro gb621 hg w7 hbox hb;have _:=qm (qt HB.out hb);have _:=qm (hbox);have _:=qm ((gs hg (qs HB.out)));have _:=qm ((gs hg (qs HB.out)));clear HB;rename_i HB BK621 GW621 GE621;clear hb hbox hg;obtain ⟨_,_,_,_,_,_,_,_,_,_,_,_,_,_,_,_⟩:=fc8 BK621.out)|((with_reducible refine gate_dst (N:=59) rfl ?_);refine Kd.R_lit (Kd.int .u8) _ 5 ?hg (N:=59) ?hd (xs:=([(wrap64 ((wrap64 ((wrap64 (64+(wrap64 (4*a0_7))))+a0_6)) - 1))%256]:List Int)) (inner:=[.int .u8 ((wrap64 ((wrap64 ((wrap64 (64+(wrap64 (4*a0_7))))+a0_6)) - 1))%256)]) (ok:=fun _=>True) (okp:=fun _=>True) ?hr ?hp (fun _ hk=>hk) trivial (Below.refl _ _) (Nat.le_refl _) (by simp) ?_;(case hd=>rfl);(case hg=>rfl);(case hr=>first|(go_simp;done)|(go_simp;rfl));(case hp=>exact (Reps.one (show Kd.M (Kd.int .u8) _ _ _ ((wrap64 ((wrap64 ((wrap64 (64+(wrap64 (4*a0_7))))+a0_6)) - 1))%256) [.int .u8 ((wrap64 ((wrap64 ((wrap64 (64+(wrap64 (4*a0_7))))+a0_6)) - 1))%256)] from rfl) (Reps.none _ _)));intro v623 w9 ho10 hb hg_ hnew_;clear hg_ hnew_;(first|rw [←Ny622.out] at ho10|(simp only [Int.reduceToNat] at ho10;rw [←Ny622.out] at ho10));have _:=qm (Kd.R_lower ho10 (qs HB.out));have _:=qm (qv (g:=gb621) BK621.out hb);have _:=qm (qt HB.out hb);clear BK621 HB;rename_i HO624 BK621 HB;clear hb ho10;obtain ⟨_,_,_,_,_,_,_,_,_,_,_,_,_,_,_,_⟩:=fc8 BK621.out)|((with_reducible refine gate_builtin (b:= .append) (xs:=#[.tmp 59, .tmp 61]) rfl ?_);at_builtin;refine Kd.R_append_rows (Kd.int .u8) (w0:=w) w.heap.size rfl (.tmp 59) (.tmp 61) 22 5 (.int .u8 0) 1 rfl Try.underlying22 info5 rfl (by decide) (by omega) v623 y622 l0_2 _ _ _ (fun _=>True) (fun _=>False) rfl rfl ?aO ?aR (fun _ _ h=>h) (fun _ h=>h.elim) ?aF ?aB ?aS ?aL ?_;(case aR=>exact cb (Kd.C_below HR0_2.out HB.out));(case aB=>exact HB.out);(case aF=>exact (fun _ _=>trivial));(case aO=>exact HO624.out);(case aS=>exact (qs HB.out));(case aL=>have:=LMc4.out;omega);intro v626 w12 ho hb hg hat;rw [←Ny625.out] at ho;have _:=qm (blk_grown (g:=gb621) BK621.out hg (Kd.R_ne HO624.out BK621.out (by decide)));have _:=qm (hb);have _:=qm (ho);clear BK621 HB HO624;rename_i BK621 HB HO627;clear ho hb hg hat))
   have _:=qm (qd HO627.out)
   have _:=qm (blk_drew BK621.out)
   have _:=qm (qj HB.out)
   clear HO627 BK621 HB
   rename_i HO627 BK621 HB
   refine start_ (n:=10) (S:=fun w' =>w'.cell? ⟨gb621,0,none⟩=some (.int .i64 a0_0)∧w'.cell? ⟨gb621,1,none⟩=some (.int .i64 a0_1)∧w'.cell? ⟨gb621,2,none⟩=some (.slice A0_2 l0_2.length c0_2)∧w'.cell? ⟨gb621,3,none⟩=some (.slice A0_3 l0_3.length c0_3)∧w'.cell? ⟨gb621,4,none⟩=some (.slice A0_4 l0_4.length c0_4)∧w'.cell? ⟨gb621,5,none⟩=some (.int .i64 a0_5)∧w'.cell? ⟨gb621,6,none⟩=some (.int .i64 a0_6)∧w'.cell? ⟨gb621,7,none⟩=some (.int .i64 a0_7)) (ds:=[]) (bm 0 10) (by kernel_rfl) rfl rfl (fz8 BK621.out) (fun hHeld=>?_);refine with_tabW impl_headBytes.tab13 impl_headBytes.bits13 (fun HT_ HW_=>?_)
   generalize w12.drew=w13 at HO627 BK621 HB hHeld ⊢
   refine pu 0 63 (bm 1 10) HT_ (h:=⟨_,by intro w';go_simp;with_reducible rfl,_,by simp only [Act.put,s1,s2,s3,i64_w,i32_w];rfl,?_⟩)
   refine pu 1 64 (bm 2 10) HT_ (h:=⟨_,by intro w';go_simp;with_reducible rfl,_,by simp only [Act.put,s1,s2,s3,i64_w,i32_w];rfl,?_⟩)
   refine pu 3 66 (bb 11 10) HT_ (h:=⟨_,by intro w';go_simp;with_reducible rfl,_,by simp only [Act.put,s1,s2,s3,i64_w,i32_w];rfl,?_⟩)
   refine pu 6 69 (bb 75 10) HT_ (h:=⟨_,by intro w';go_simp;with_reducible rfl,_,by simp only [Act.put,s1,s2,s3,i64_w,i32_w];rfl,?_⟩)
   refine tk 2 65 (bb 79 10) HT_ HW_ (hS:=hHeld) (h:=⟨_,by rintro w' ⟨s0,s1,s2,s3,s4,s5,s6,s7⟩;go_simp;with_reducible rfl,_,by simp only [Act.put,s1,s2,s3,i64_w,i32_w];rfl,?_⟩)
   refine tk 4 67 (bb 95 10) HT_ HW_ (hS:=hHeld) (h:=⟨_,by rintro w' ⟨s0,s1,s2,s3,s4,s5,s6,s7⟩;go_simp;with_reducible rfl,_,by simp only [Act.put,s1,s2,s3,i64_w,i32_w];rfl,?_⟩)
   refine tk 7 70 (bb 223 10) HT_ HW_ (hS:=hHeld) (h:=⟨_,by rintro w' ⟨s0,s1,s2,s3,s4,s5,s6,s7⟩;go_simp;with_reducible rfl,_,by simp only [Act.put,s1,s2,s3,i64_w,i32_w];rfl,?_⟩)
   refine one_ (i:=5) (N:=some 68) (bm 8 10) rfl rfl (one_of HT_.out (by kernel_rfl)) (by decide) (fun K hK=>?_)
   refine goes_ Try.func85 (by kernel_rfl) rfl #[.int .i64 a0_5, .int .i64 a0_6] (by rfl) rfl rfl (by (try simp only [m1,m2,m3]);first|done|rfl) ?_
   with_reducible refine (impl_CutNum.calls a0_5 a0_6 t628 _ A5.out).mono ?_
   rintro e w' ⟨rfl,⟨nd,rfl⟩⟩
   refine ⟨_,rfl,?_⟩
   obtain ⟨Ao14,co14,eo14⟩:=Kd.R_slice HO627.out
   (first|subst eo14|(injection eo14 with f1_ f2_ f3_;have f4_:=f1_.symm;have f5_:=f3_.symm;clear f1_ f2_ f3_;subst f4_;subst f5_))
   refine hK.out _ _ (fz8 BK621.out) (fun hHeld=>?_)
   clear hK K
   refine norm_ (a' :=?_) ?_ ?_
   rotate_left
   ·show Act.put _ (some 68) _=_
    simp only [Act.put,s1,s2,s3,i64_w,i32_w]
    rfl
   refine one_ (i:=8) (N:=some 71) (bm 9 10) rfl rfl (one_of HT_.out (by kernel_rfl)) (by decide) (fun K hK=>?_)
   refine goes_ Try.func80 (by kernel_rfl) rfl #[.slice Ao14 y625.length co14, .int .i64 t628, .int .i64 a0_6] (by rfl) rfl rfl (by (try simp only [m1,m2,m3]);first|done|rfl) ?_
   with_reducible refine (impl_fixed.calls k (fun k_=>some k_=(.slice Ao14 y625.length co14:Value).ownBlock) (.slice Ao14 y625.length co14) y625 t628 a0_6 t629 w _ ?side1 ?side2 A6.out).mono ?_
   (case side1=>repeat (first|(with_reducible first|exact HB.out|apply qh|apply qi|apply qj|refine below_set ?_ GE621.out)|exact HB.out))
   (case side2=>exact Kd.R_tight rfl HO627.out)
   rintro e w15 ⟨v630,rfl,ho0,hb,hkp⟩
   refine ⟨_,rfl,?_⟩
   have _:=qm (blk_kept BK621.out hkp (fun hs_=>(fun e_=>(Kd.R_ne HO627.out BK621.out (by decide)) e_) hs_))
   have _:=qm (qg (ok' :=fun k_=>True) ho0 (fun k_ hk_=>trivial))
   have _:=qm (hb)
   clear BK621 HB HO627
   rename_i BK621 HO631 HB
   (try clear hb)
   (try clear hkp)
   (try clear ho0)
   refine hK.out _ _ (fz8 BK621.out) (fun hHeld=>?_)
   clear hK K
   refine norm_ (a' :=?_) ?_ ?_
   rotate_left
   ·show Act.put _ (some 71) _=_
    simp only [Act.put,s1,s2,s3,i64_w,i32_w]
    rfl
   refine pu 9 4 (bm 10 10) HT_ (h:=⟨_,by intro w';go_simp;with_reducible rfl,_,by simp only [Act.put,s1,s2,s3,i64_w,i32_w];rfl,?_⟩)
   refine done_ (done_of HT_.out (by kernel_rfl)) ?_
   try go_wp2
   go_ret
   exact ⟨_,by first|rfl|(simp <;> rfl)|(simp [*] <;> rfl),HO631.out,HB.out⟩
  rw [if_neg c4] at H
  exact absurd H (by simp)
 rw [if_neg c3] at H
 have c3b0:(a0_0 == 4)=false:=beq_eq_false_iff_ne.mpr c3
 have c3b1:(a0_0 != 4)=true:=bne_iff_ne.mpr c3
 have HC16:=qm H
 clear H
 go_enter Try.func75,Try.ntmps75
 go_upto_if 12 with (first|((with_reducible refine gate_dst (N:=2) rfl ?_);refine box_event (by rfl) (N:=2) (by rfl) (cs:=#[.int .i64 a0_0, .int .i64 a0_1, .slice A0_2 l0_2.length c0_2, .slice A0_3 l0_3.length c0_3, .slice A0_4 l0_4.length c0_4, .int .i64 a0_5, .int .i64 a0_6, .int .i64 a0_7]) (t:=45) (by first|(go_simp;done)|(go_simp;rfl)) ?_;intro gb621 hg w17 hbox hb;have _:=qm (qt HB.out hb);have _:=qm (hbox);have _:=qm ((gs hg (qs HB.out)));have _:=qm ((gs hg (qs HB.out)));clear HB;rename_i HB BK621 GW621 GE621;clear hb hbox hg;obtain ⟨_,_,_,_,_,_,_,_,_,_,_,_,_,_,_,_⟩:=fc8 BK621.out))
 (try simp only [Act.put,s1,s2,s3])
 go_cut [6] (fun v6 wc=>∃ (kq:Nat) (x6_15:Int),v6 = .int .i64 x6_15∧Aside0 (impl_headBytes.j0 kq a1 x6_15 a0_0 a0_1 l0_2 l0_3 l0_4 a0_5 a0_6 a0_7=some r)∧Aside0 (kq≤k)∧Aside0 (wc.heap[gb621]? =some (.cells #[.int .i64 a0_0, .int .i64 a0_1,(.slice A0_2 l0_2.length c0_2),(.slice A0_3 l0_3.length c0_3),(.slice A0_4 l0_4.length c0_4), .int .i64 a0_5, .int .i64 a0_6, .int .i64 a0_7] 45 (0,0)))∧Aside0 (Below w.heap.size w wc))
 case first=>
  have H:=HC16.out
  clear HC16
  by_cases c19:a0_0=2
  ·rw [if_pos c19] at H
   have c19b0:(a0_0 == 2)=true:=beq_iff_eq.mpr c19
   have c19b1:(a0_0 != 2)=false:=bne_eq_false_iff_eq.mpr c19
   clear c19
   (first|rw [c19b0]|(simp only [i64_w,i32_w];rw [c19b0])|skip)
   have H' :=qm H
   clear H
   go_wp2
   go_meet
   case rel=>exact ⟨_,(2),rfl,H',⟨by first|omega|exact Nat.le_refl _⟩,⟨BK621.out⟩,⟨HB.out⟩⟩
  rw [if_neg c19] at H
  have c19b0:(a0_0 == 2)=false:=beq_eq_false_iff_ne.mpr c19
  have c19b1:(a0_0 != 2)=true:=bne_iff_ne.mpr c19
  (first|rw [c19b0]|(simp only [i64_w,i32_w];rw [c19b0])|skip)
  have H' :=qm H
  clear H
  go_wp2
  go_meet
  case rel=>exact ⟨_,(0),rfl,H',⟨by first|omega|exact Nat.le_refl _⟩,⟨BK621.out⟩,⟨HB.out⟩⟩
 clear HC16
 try clear c3
 try clear c3b0
 try clear c3b1
 obtain ⟨kq,x6_15,rfl,HA,HJ15,BK621,HB⟩:=hcut
 cases kq with
 |zero=>exact absurd HA.out (by simp [impl_headBytes.j0])
 |succ kj15=>?_
 have H:=HA.out
 clear HA
 simp only [impl_headBytes.j0] at H
 replace H:=Option.bind_eq_some_iff.mp H
 obtain ⟨t632,A200,H⟩:=H
 try dsimp only at H
 have A20:=qm A200
 clear A200
 by_cases c21:a0_0=1
 ·rw [if_pos c21] at H
  have c21b0:(a0_0 == 1)=true:=beq_iff_eq.mpr c21
  have c21b1:(a0_0 != 1)=false:=bne_eq_false_iff_eq.mpr c21
  clear c21
  replace H:=Option.bind_eq_some_iff.mp H
  obtain ⟨t635,A220,H⟩:=H
  try dsimp only at H
  have A22:=qm A220
  clear A220
  obtain ⟨y638,hy638⟩:∃ y_:List Int,y_=(([(Go.bits .or .i64 64 ((wrap64 (a0_6+a1)) / 256))%256,(wrap64 (a0_6+a1))%256]:List Int)):=⟨_,rfl⟩
  replace H:(if t635.length+y638.length<140737488355328 then ((impl_CutNum.f a0_5 a0_6).bind fun t644=>((impl_fixed.f kj15 (t635 ++ y638) t644 a0_6).bind fun t645=>(some t645))) else (none))=some r:=by first|(rw [hy638];with_reducible exact H)|(have H2_:=(Option.bind_some _ _).symm.trans H;rw [hy638];with_reducible exact H2_)|(have H2_:=(Option.bind_some _ _).symm.trans H;with_reducible exact H2_)|with_reducible exact H|(rw [hy638];exact H)|exact H
  have Ny638:=qm hy638
  clear hy638
  by_cases c23:t635.length+y638.length<140737488355328
  ·rw [if_pos c23] at H
   have LMc23:=qm c23
   clear c23
   obtain ⟨y641,hy641⟩:∃ y_:List Int,y_=(t635 ++ y638):=⟨_,rfl⟩
   replace H:((impl_CutNum.f a0_5 a0_6).bind fun t644=>((impl_fixed.f kj15 y641 t644 a0_6).bind fun t645=>(some t645)))=some r:=by first|(rw [hy641];with_reducible exact H)|(have H2_:=(Option.bind_some _ _).symm.trans H;rw [hy641];with_reducible exact H2_)|(have H2_:=(Option.bind_some _ _).symm.trans H;with_reducible exact H2_)|with_reducible exact H|(rw [hy641];exact H)|exact H
   have Ny641:=qm hy641
   clear hy641
   replace H:=Option.bind_eq_some_iff.mp H
   obtain ⟨t644,A240,H⟩:=H
   try dsimp only at H
   have A24:=qm A240
   clear A240
   replace H:=Option.bind_eq_some_iff.mp H
   obtain ⟨t645,A250,H⟩:=H
   replace H:(some t645)=some r:=H
   have A25:=qm A250
   clear A250
   obtain rfl:=Option.some.inj H
   obtain ⟨_,_,_,_,_,_,_,_,_,_,_,_,_,_,_,_⟩:=fc8 BK621.out
   try go_wp2_with (first|((with_reducible refine gate_callee (f:=61) rfl ?_);refine goesL_ (some 27) rfl rfl Try.func61 (by kernel_rfl) rfl #[.int .u8 ((wrap64 ((wrap64 ((wrap64 (192+(wrap64 (16*x6_15))))+a0_6)) - 1))%256), .int .i64 a0_1, .slice A0_2 l0_2.length c0_2, .slice A0_3 l0_3.length c0_3] rfl (by (try simp only [m1,m2,m3]);first|done|rfl) ?_;(with_reducible refine (impl_longBegin.calls kj15 ((wrap64 ((wrap64 ((wrap64 (192+(wrap64 (16*x6_15))))+a0_6)) - 1))%256) a0_1 _ _ l0_2 _ _ l0_3 t632 _ ?side1 ?side2 ?side3 ?side4 A20.out).mono ?_);(case side1=>exact cb (Kd.C_below HR0_2.out HB.out));(case side2=>exact HC0_2.out);(case side3=>exact cb (Kd.C_below HR0_3.out HB.out));(case side4=>exact HC0_3.out);rintro e w27 ⟨v633,rfl,ho0,hb⟩;refine ⟨_,rfl,?_⟩;have _:=qm (Kd.R_lower ho0 (qs HB.out));have _:=qm (qv (g:=gb621) BK621.out hb);have _:=qm (qt HB.out hb);clear BK621 HB;rename_i HO634 BK621 HB;obtain ⟨_,_,_,_,_,_,_,_,_,_,_,_,_,_,_,_⟩:=fc8 BK621.out;obtain ⟨Ao29,co29,eo29⟩:=Kd.R_slice HO634.out;subst eo29)|((with_reducible refine gate_callee (f:=84) rfl ?_);refine goesL_ (some 34) rfl rfl Try.func84 (by kernel_rfl) rfl #[.slice Ao29 t632.length co29, .slice A0_4 l0_4.length c0_4] rfl (by (try simp only [m1,m2,m3]);first|done|rfl) ?_;(with_reducible refine (impl_addCounted.calls kj15 (fun k_=>some k_=(.slice Ao29 t632.length co29:Value).ownBlock) (.slice Ao29 t632.length co29) t632 _ _ l0_4 t635 w _ ?side1 ?side2 ?side3 ?side4 A22.out).mono ?_);(case side1=>repeat (first|(with_reducible first|exact HB.out|apply qh|apply qi|apply qj|refine below_set ?_ GE621.out)|exact HB.out));(case side2=>exact Kd.R_tight rfl HO634.out);(case side3=>exact Kd.C_kept_came (Kd.heap_int .u8) HR0_4.out HB.out (fun k_ hs_=>(fun e_=>Kd.R_base HO634.out k_ e_.symm) hs_));(case side4=>exact HC0_4.out);rintro e w30 ⟨v636,rfl,ho0,hb,hkp⟩;refine ⟨_,rfl,?_⟩;have _:=qm (blk_kept BK621.out hkp (fun hs_=>(fun e_=>(Kd.R_ne HO634.out BK621.out (by decide)) e_) hs_));have _:=qm (qg (ok' :=fun k_=>True) ho0 (fun k_ hk_=>trivial));have _:=qm (hb);clear BK621 HB HO634;rename_i BK621 HO637 HB;obtain ⟨_,_,_,_,_,_,_,_,_,_,_,_,_,_,_,_⟩:=fc8 BK621.out)|((with_reducible refine gate_dst (N:=46) rfl ?_);refine Kd.R_lit (Kd.int .u8) _ 5 ?hg (N:=46) ?hd (xs:=([(Go.bits .or .i64 64 ((wrap64 (a0_6+a1)) / 256))%256,(wrap64 (a0_6+a1))%256]:List Int)) (inner:=[.int .u8 ((Go.bits .or .i64 64 ((wrap64 (a0_6+a1)) / 256))%256), .int .u8 ((wrap64 (a0_6+a1))%256)]) (ok:=fun _=>True) (okp:=fun _=>True) ?hr ?hp (fun _ hk=>hk) trivial (Below.refl _ _) (Nat.le_refl _) (by simp) ?_;(case hd=>rfl);(case hg=>rfl);(case hr=>first|(go_simp;done)|(go_simp;rfl));(case hp=>exact (Reps.one (show Kd.M (Kd.int .u8) _ _ _ ((Go.bits .or .i64 64 ((wrap64 (a0_6+a1)) / 256))%256) [.int .u8 ((Go.bits .or .i64 64 ((wrap64 (a0_6+a1)) / 256))%256)] from rfl) (Reps.one (show Kd.M (Kd.int .u8) _ _ _ ((wrap64 (a0_6+a1))%256) [.int .u8 ((wrap64 (a0_6+a1))%256)] from rfl) (Reps.none _ _))));intro v639 w32 ho33 hb hg_ hnew_;clear hg_ hnew_;(first|rw [←Ny638.out] at ho33|(simp only [Int.reduceToNat] at ho33;rw [←Ny638.out] at ho33));have _:=qm (Kd.R_elder' HO637.out (Kd.R_base ho33) hb);have _:=qm (Kd.R_lower (nw ho33 HO637.out) (qs HB.out));have _:=qm (qv (g:=gb621) BK621.out hb);have _:=qm (qt HB.out hb);clear HO637 BK621 HB;rename_i HO637 HO640 BK621 HB;clear hb ho33;obtain ⟨Ao35,co35,eo35⟩:=Kd.R_slice HO640.out;subst eo35)|((with_reducible refine gate_builtin (b:= .append) (xs:=#[.tmp 39, .tmp 46]) rfl ?_);at_builtin;refine Kd.R_append_rows (Kd.int .u8) (w0:=w) w.heap.size rfl (.tmp 39) (.tmp 46) 22 5 (.int .u8 0) 1 rfl Try.underlying22 info5 rfl (by decide) (by omega) v636 t635 y638 _ _ _ (fun k_=>ob k_ (.slice Ao35 y638.length co35)) (fun _=>False) rfl rfl ?aO ?aR (fun _ _ h=>h) (fun _ h=>h.elim) ?aF ?aB ?aS ?aL ?_;(case aR=>exact cb ((qe HO640.out).2.2));(case aB=>exact HB.out);(case aF=>exact (fun k_ hk=>Kd.fresh' (Kd.R_lt HO640.out) k_ hk));(case aO=>exact (rb (qg HO637.out (fun _ hk=>hk.2))));(case aS=>exact (qs HB.out));(case aL=>have:=LMc23.out;omega);intro v642 w34 ho hb hg hat;rw [←Ny641.out] at ho;have _:=qm (blk_grown (g:=gb621) BK621.out hg (Kd.R_ne HO637.out BK621.out (by decide)));have _:=qm (Kd.R_after (ok:=(fun _=>True)) HO640.out hg hat);have _:=qm (hb);have _:=qm (ho);clear BK621 HO640 HB HO637;rename_i BK621 HO640 HB HO643;clear ho hb hg hat))
   have _:=qm (qd HO640.out)
   have _:=qm (qd HO643.out)
   have _:=qm (blk_drew BK621.out)
   have _:=qm (qj HB.out)
   clear HO640 HO643 BK621 HB
   rename_i HO640 HO643 BK621 HB
   refine start_ (n:=10) (S:=fun w' =>w'.cell? ⟨gb621,0,none⟩=some (.int .i64 a0_0)∧w'.cell? ⟨gb621,1,none⟩=some (.int .i64 a0_1)∧w'.cell? ⟨gb621,2,none⟩=some (.slice A0_2 l0_2.length c0_2)∧w'.cell? ⟨gb621,3,none⟩=some (.slice A0_3 l0_3.length c0_3)∧w'.cell? ⟨gb621,4,none⟩=some (.slice A0_4 l0_4.length c0_4)∧w'.cell? ⟨gb621,5,none⟩=some (.int .i64 a0_5)∧w'.cell? ⟨gb621,6,none⟩=some (.int .i64 a0_6)∧w'.cell? ⟨gb621,7,none⟩=some (.int .i64 a0_7)) (ds:=[]) (bm 0 10) (by kernel_rfl) rfl rfl (fz8 BK621.out) (fun hHeld=>?_);refine with_tabW impl_headBytes.tab13 impl_headBytes.bits13 (fun HT_ HW_=>?_)
   generalize w34.drew=w36 at HO640 HO643 BK621 HB hHeld ⊢
   refine pu 0 63 (bm 1 10) HT_ (h:=⟨_,by intro w';go_simp;with_reducible rfl,_,by simp only [Act.put,s1,s2,s3,i64_w,i32_w];rfl,?_⟩)
   refine pu 1 64 (bm 2 10) HT_ (h:=⟨_,by intro w';go_simp;with_reducible rfl,_,by simp only [Act.put,s1,s2,s3,i64_w,i32_w];rfl,?_⟩)
   refine pu 3 66 (bb 11 10) HT_ (h:=⟨_,by intro w';go_simp;with_reducible rfl,_,by simp only [Act.put,s1,s2,s3,i64_w,i32_w];rfl,?_⟩)
   refine pu 6 69 (bb 75 10) HT_ (h:=⟨_,by intro w';go_simp;with_reducible rfl,_,by simp only [Act.put,s1,s2,s3,i64_w,i32_w];rfl,?_⟩)
   refine tk 2 65 (bb 79 10) HT_ HW_ (hS:=hHeld) (h:=⟨_,by rintro w' ⟨s0,s1,s2,s3,s4,s5,s6,s7⟩;go_simp;with_reducible rfl,_,by simp only [Act.put,s1,s2,s3,i64_w,i32_w];rfl,?_⟩)
   refine tk 4 67 (bb 95 10) HT_ HW_ (hS:=hHeld) (h:=⟨_,by rintro w' ⟨s0,s1,s2,s3,s4,s5,s6,s7⟩;go_simp;with_reducible rfl,_,by simp only [Act.put,s1,s2,s3,i64_w,i32_w];rfl,?_⟩)
   refine tk 7 70 (bb 223 10) HT_ HW_ (hS:=hHeld) (h:=⟨_,by rintro w' ⟨s0,s1,s2,s3,s4,s5,s6,s7⟩;go_simp;with_reducible rfl,_,by simp only [Act.put,s1,s2,s3,i64_w,i32_w];rfl,?_⟩)
   refine one_ (i:=5) (N:=some 68) (bm 8 10) rfl rfl (one_of HT_.out (by kernel_rfl)) (by decide) (fun K hK=>?_)
   refine goes_ Try.func85 (by kernel_rfl) rfl #[.int .i64 a0_5, .int .i64 a0_6] (by rfl) rfl rfl (by (try simp only [m1,m2,m3]);first|done|rfl) ?_
   with_reducible refine (impl_CutNum.calls a0_5 a0_6 t644 _ A24.out).mono ?_
   rintro e w' ⟨rfl,⟨nd,rfl⟩⟩
   refine ⟨_,rfl,?_⟩
   obtain ⟨Ao37,co37,eo37⟩:=Kd.R_slice HO643.out
   (first|subst eo37|(injection eo37 with f1_ f2_ f3_;have f4_:=f1_.symm;have f5_:=f3_.symm;clear f1_ f2_ f3_;subst f4_;subst f5_))
   refine hK.out _ _ (fz8 BK621.out) (fun hHeld=>?_)
   clear hK K
   refine norm_ (a' :=?_) ?_ ?_
   rotate_left
   ·show Act.put _ (some 68) _=_
    simp only [Act.put,s1,s2,s3,i64_w,i32_w]
    rfl
   refine one_ (i:=8) (N:=some 71) (bm 9 10) rfl rfl (one_of HT_.out (by kernel_rfl)) (by decide) (fun K hK=>?_)
   refine goes_ Try.func80 (by kernel_rfl) rfl #[.slice Ao37 y641.length co37, .int .i64 t644, .int .i64 a0_6] (by rfl) rfl rfl (by (try simp only [m1,m2,m3]);first|done|rfl) ?_
   with_reducible refine (impl_fixed.calls kj15 (fun k_=>some k_=(.slice Ao37 y641.length co37:Value).ownBlock) (.slice Ao37 y641.length co37) y641 t644 a0_6 t645 w _ ?side1 ?side2 A25.out).mono ?_
   (case side1=>repeat (first|(with_reducible first|exact HB.out|apply qh|apply qi|apply qj|refine below_set ?_ GE621.out)|exact HB.out))
   (case side2=>exact Kd.R_tight rfl HO643.out)
   rintro e w38 ⟨v646,rfl,ho0,hb,hkp⟩
   refine ⟨_,rfl,?_⟩
   have _:=qm (blk_kept BK621.out hkp (fun hs_=>(fun e_=>(Kd.R_ne HO643.out BK621.out (by decide)) e_) hs_))
   have _:=qm (qg (ok' :=fun k_=>ob k_ v646) (Kd.R_keptB (HO640.out) hkp (fun k_ hk_ hs_=>(hk_.2) hs_)) (fun k_ hk_=>fun e_=>Or.elim (ho0.1 k_ e_.symm) (fun hs_=>hk_.2.1 hs_) (fun hn_=>Nat.not_le.2 hk_.2.2 hn_)))
   have _:=qm (qg (ok' :=fun k_=>ob k_ (.slice Ao35 y638.length co35)) ho0 (fun k_ hk_=>Or.elim hk_ (fun hs_=>fun e_=>(((HO640.out).1 k_ e_.symm).2) hs_) (fun hn_=>(Kd.fresh' (Kd.R_lt HO640.out) k_ hn_))))
   have _:=qm (hb)
   clear BK621 HO640 HB HO643
   rename_i BK621 HO640 HO647 HB
   (try clear hb)
   (try clear hkp)
   (try clear ho0)
   refine hK.out _ _ (fz8 BK621.out) (fun hHeld=>?_)
   clear hK K
   refine norm_ (a' :=?_) ?_ ?_
   rotate_left
   ·show Act.put _ (some 71) _=_
    simp only [Act.put,s1,s2,s3,i64_w,i32_w]
    rfl
   refine pu 9 4 (bm 10 10) HT_ (h:=⟨_,by intro w';go_simp;with_reducible rfl,_,by simp only [Act.put,s1,s2,s3,i64_w,i32_w];rfl,?_⟩)
   refine done_ (done_of HT_.out (by kernel_rfl)) ?_
   try go_wp2
   go_ret
   exact ⟨_,by first|rfl|(simp <;> rfl)|(simp [*] <;> rfl),by (with_reducible repeat (first|apply qb|apply qc|apply qd));exact qg HO647.out (fun _ hk=>trivial),HB.out⟩
  rw [if_neg c23] at H
  exact absurd H (by simp)
 rw [if_neg c21] at H
 have c21b0:(a0_0 == 1)=false:=beq_eq_false_iff_ne.mpr c21
 have c21b1:(a0_0 != 1)=true:=bne_iff_ne.mpr c21
 obtain ⟨y648,hy648⟩:∃ y_:List Int,y_=(([(Go.bits .or .i64 64 ((wrap64 (a0_6+a1)) / 256))%256,(wrap64 (a0_6+a1))%256]:List Int)):=⟨_,rfl⟩
 replace H:(if t632.length+y648.length<140737488355328 then ((impl_CutNum.f a0_5 a0_6).bind fun t654=>((impl_fixed.f kj15 (t632 ++ y648) t654 a0_6).bind fun t655=>(some t655))) else (none))=some r:=by first|(rw [hy648];with_reducible exact H)|(have H2_:=(Option.bind_some _ _).symm.trans H;rw [hy648];with_reducible exact H2_)|(have H2_:=(Option.bind_some _ _).symm.trans H;with_reducible exact H2_)|with_reducible exact H|(rw [hy648];exact H)|exact H
 have Ny648:=qm hy648
 clear hy648
 by_cases c39:t632.length+y648.length<140737488355328
 ·rw [if_pos c39] at H
  have LMc39:=qm c39
  clear c39
  obtain ⟨y651,hy651⟩:∃ y_:List Int,y_=(t632 ++ y648):=⟨_,rfl⟩
  replace H:((impl_CutNum.f a0_5 a0_6).bind fun t654=>((impl_fixed.f kj15 y651 t654 a0_6).bind fun t655=>(some t655)))=some r:=by first|(rw [hy651];with_reducible exact H)|(have H2_:=(Option.bind_some _ _).symm.trans H;rw [hy651];with_reducible exact H2_)|(have H2_:=(Option.bind_some _ _).symm.trans H;with_reducible exact H2_)|with_reducible exact H|(rw [hy651];exact H)|exact H
  have Ny651:=qm hy651
  clear hy651
  replace H:=Option.bind_eq_some_iff.mp H
  obtain ⟨t654,A400,H⟩:=H
  try dsimp only at H
  have A40:=qm A400
  clear A400
  replace H:=Option.bind_eq_some_iff.mp H
  obtain ⟨t655,A410,H⟩:=H
  replace H:(some t655)=some r:=H
  have A41:=qm A410
  clear A410
  obtain rfl:=Option.some.inj H
  obtain ⟨_,_,_,_,_,_,_,_,_,_,_,_,_,_,_,_⟩:=fc8 BK621.out
  try go_wp2_with (first|((with_reducible refine gate_callee (f:=61) rfl ?_);refine goesL_ (some 27) rfl rfl Try.func61 (by kernel_rfl) rfl #[.int .u8 ((wrap64 ((wrap64 ((wrap64 (192+(wrap64 (16*x6_15))))+a0_6)) - 1))%256), .int .i64 a0_1, .slice A0_2 l0_2.length c0_2, .slice A0_3 l0_3.length c0_3] rfl (by (try simp only [m1,m2,m3]);first|done|rfl) ?_;(with_reducible refine (impl_longBegin.calls kj15 ((wrap64 ((wrap64 ((wrap64 (192+(wrap64 (16*x6_15))))+a0_6)) - 1))%256) a0_1 _ _ l0_2 _ _ l0_3 t632 _ ?side1 ?side2 ?side3 ?side4 A20.out).mono ?_);(case side1=>exact cb (Kd.C_below HR0_2.out HB.out));(case side2=>exact HC0_2.out);(case side3=>exact cb (Kd.C_below HR0_3.out HB.out));(case side4=>exact HC0_3.out);rintro e w43 ⟨v633,rfl,ho0,hb⟩;refine ⟨_,rfl,?_⟩;have _:=qm (Kd.R_lower ho0 (qs HB.out));have _:=qm (qv (g:=gb621) BK621.out hb);have _:=qm (qt HB.out hb);clear BK621 HB;rename_i HO634 BK621 HB;obtain ⟨_,_,_,_,_,_,_,_,_,_,_,_,_,_,_,_⟩:=fc8 BK621.out)|((with_reducible refine gate_dst (N:=46) rfl ?_);refine Kd.R_lit (Kd.int .u8) _ 5 ?hg (N:=46) ?hd (xs:=([(Go.bits .or .i64 64 ((wrap64 (a0_6+a1)) / 256))%256,(wrap64 (a0_6+a1))%256]:List Int)) (inner:=[.int .u8 ((Go.bits .or .i64 64 ((wrap64 (a0_6+a1)) / 256))%256), .int .u8 ((wrap64 (a0_6+a1))%256)]) (ok:=fun _=>True) (okp:=fun _=>True) ?hr ?hp (fun _ hk=>hk) trivial (Below.refl _ _) (Nat.le_refl _) (by simp) ?_;(case hd=>rfl);(case hg=>rfl);(case hr=>first|(go_simp;done)|(go_simp;rfl));(case hp=>exact (Reps.one (show Kd.M (Kd.int .u8) _ _ _ ((Go.bits .or .i64 64 ((wrap64 (a0_6+a1)) / 256))%256) [.int .u8 ((Go.bits .or .i64 64 ((wrap64 (a0_6+a1)) / 256))%256)] from rfl) (Reps.one (show Kd.M (Kd.int .u8) _ _ _ ((wrap64 (a0_6+a1))%256) [.int .u8 ((wrap64 (a0_6+a1))%256)] from rfl) (Reps.none _ _))));intro v649 w45 ho46 hb hg_ hnew_;clear hg_ hnew_;(first|rw [←Ny648.out] at ho46|(simp only [Int.reduceToNat] at ho46;rw [←Ny648.out] at ho46));have _:=qm (Kd.R_elder' HO634.out (Kd.R_base ho46) hb);have _:=qm (Kd.R_lower (nw ho46 HO634.out) (qs HB.out));have _:=qm (qv (g:=gb621) BK621.out hb);have _:=qm (qt HB.out hb);clear HO634 BK621 HB;rename_i HO634 HO650 BK621 HB;clear hb ho46;obtain ⟨Ao48,co48,eo48⟩:=Kd.R_slice HO650.out;subst eo48)|((with_reducible refine gate_builtin (b:= .append) (xs:=#[.tmp 39, .tmp 46]) rfl ?_);at_builtin;refine Kd.R_append_rows (Kd.int .u8) (w0:=w) w.heap.size rfl (.tmp 39) (.tmp 46) 22 5 (.int .u8 0) 1 rfl Try.underlying22 info5 rfl (by decide) (by omega) v633 t632 y648 _ _ _ (fun k_=>ob k_ (.slice Ao48 y648.length co48)) (fun _=>False) rfl rfl ?aO ?aR (fun _ _ h=>h) (fun _ h=>h.elim) ?aF ?aB ?aS ?aL ?_;(case aR=>exact cb ((qe HO650.out).2.2));(case aB=>exact HB.out);(case aF=>exact (fun k_ hk=>Kd.fresh' (Kd.R_lt HO650.out) k_ hk));(case aO=>exact (rb (qg HO634.out (fun _ hk=>hk.2))));(case aS=>exact (qs HB.out));(case aL=>have:=LMc39.out;omega);intro v652 w47 ho hb hg hat;rw [←Ny651.out] at ho;have _:=qm (blk_grown (g:=gb621) BK621.out hg (Kd.R_ne HO634.out BK621.out (by decide)));have _:=qm (Kd.R_after (ok:=(fun _=>True)) HO650.out hg hat);have _:=qm (hb);have _:=qm (ho);clear BK621 HO650 HB HO634;rename_i BK621 HO650 HB HO653;clear ho hb hg hat))
  have _:=qm (qd HO650.out)
  have _:=qm (qd HO653.out)
  have _:=qm (blk_drew BK621.out)
  have _:=qm (qj HB.out)
  clear HO650 HO653 BK621 HB
  rename_i HO650 HO653 BK621 HB
  refine start_ (n:=10) (S:=fun w' =>w'.cell? ⟨gb621,0,none⟩=some (.int .i64 a0_0)∧w'.cell? ⟨gb621,1,none⟩=some (.int .i64 a0_1)∧w'.cell? ⟨gb621,2,none⟩=some (.slice A0_2 l0_2.length c0_2)∧w'.cell? ⟨gb621,3,none⟩=some (.slice A0_3 l0_3.length c0_3)∧w'.cell? ⟨gb621,4,none⟩=some (.slice A0_4 l0_4.length c0_4)∧w'.cell? ⟨gb621,5,none⟩=some (.int .i64 a0_5)∧w'.cell? ⟨gb621,6,none⟩=some (.int .i64 a0_6)∧w'.cell? ⟨gb621,7,none⟩=some (.int .i64 a0_7)) (ds:=[]) (bm 0 10) (by kernel_rfl) rfl rfl (fz8 BK621.out) (fun hHeld=>?_);refine with_tabW impl_headBytes.tab13 impl_headBytes.bits13 (fun HT_ HW_=>?_)
  generalize w47.drew=w49 at HO650 HO653 BK621 HB hHeld ⊢
  refine pu 0 63 (bm 1 10) HT_ (h:=⟨_,by intro w';go_simp;with_reducible rfl,_,by simp only [Act.put,s1,s2,s3,i64_w,i32_w];rfl,?_⟩)
  refine pu 1 64 (bm 2 10) HT_ (h:=⟨_,by intro w';go_simp;with_reducible rfl,_,by simp only [Act.put,s1,s2,s3,i64_w,i32_w];rfl,?_⟩)
  refine pu 3 66 (bb 11 10) HT_ (h:=⟨_,by intro w';go_simp;with_reducible rfl,_,by simp only [Act.put,s1,s2,s3,i64_w,i32_w];rfl,?_⟩)
  refine pu 6 69 (bb 75 10) HT_ (h:=⟨_,by intro w';go_simp;with_reducible rfl,_,by simp only [Act.put,s1,s2,s3,i64_w,i32_w];rfl,?_⟩)
  refine tk 2 65 (bb 79 10) HT_ HW_ (hS:=hHeld) (h:=⟨_,by rintro w' ⟨s0,s1,s2,s3,s4,s5,s6,s7⟩;go_simp;with_reducible rfl,_,by simp only [Act.put,s1,s2,s3,i64_w,i32_w];rfl,?_⟩)
  refine tk 4 67 (bb 95 10) HT_ HW_ (hS:=hHeld) (h:=⟨_,by rintro w' ⟨s0,s1,s2,s3,s4,s5,s6,s7⟩;go_simp;with_reducible rfl,_,by simp only [Act.put,s1,s2,s3,i64_w,i32_w];rfl,?_⟩)
  refine tk 7 70 (bb 223 10) HT_ HW_ (hS:=hHeld) (h:=⟨_,by rintro w' ⟨s0,s1,s2,s3,s4,s5,s6,s7⟩;go_simp;with_reducible rfl,_,by simp only [Act.put,s1,s2,s3,i64_w,i32_w];rfl,?_⟩)
  refine one_ (i:=5) (N:=some 68) (bm 8 10) rfl rfl (one_of HT_.out (by kernel_rfl)) (by decide) (fun K hK=>?_)
  refine goes_ Try.func85 (by kernel_rfl) rfl #[.int .i64 a0_5, .int .i64 a0_6] (by rfl) rfl rfl (by (try simp only [m1,m2,m3]);first|done|rfl) ?_
  with_reducible refine (impl_CutNum.calls a0_5 a0_6 t654 _ A40.out).mono ?_
  rintro e w' ⟨rfl,⟨nd,rfl⟩⟩
  refine ⟨_,rfl,?_⟩
  obtain ⟨Ao50,co50,eo50⟩:=Kd.R_slice HO653.out
  (first|subst eo50|(injection eo50 with f1_ f2_ f3_;have f4_:=f1_.symm;have f5_:=f3_.symm;clear f1_ f2_ f3_;subst f4_;subst f5_))
  refine hK.out _ _ (fz8 BK621.out) (fun hHeld=>?_)
  clear hK K
  refine norm_ (a' :=?_) ?_ ?_
  rotate_left
  ·show Act.put _ (some 68) _=_
   simp only [Act.put,s1,s2,s3,i64_w,i32_w]
   rfl
  refine one_ (i:=8) (N:=some 71) (bm 9 10) rfl rfl (one_of HT_.out (by kernel_rfl)) (by decide) (fun K hK=>?_)
  refine goes_ Try.func80 (by kernel_rfl) rfl #[.slice Ao50 y651.length co50, .int .i64 t654, .int .i64 a0_6] (by rfl) rfl rfl (by (try simp only [m1,m2,m3]);first|done|rfl) ?_
  with_reducible refine (impl_fixed.calls kj15 (fun k_=>some k_=(.slice Ao50 y651.length co50:Value).ownBlock) (.slice Ao50 y651.length co50) y651 t654 a0_6 t655 w _ ?side1 ?side2 A41.out).mono ?_
  (case side1=>repeat (first|(with_reducible first|exact HB.out|apply qh|apply qi|apply qj|refine below_set ?_ GE621.out)|exact HB.out))
  (case side2=>exact Kd.R_tight rfl HO653.out)
  rintro e w51 ⟨v656,rfl,ho0,hb,hkp⟩
  refine ⟨_,rfl,?_⟩
  have _:=qm (blk_kept BK621.out hkp (fun hs_=>(fun e_=>(Kd.R_ne HO653.out BK621.out (by decide)) e_) hs_))
  have _:=qm (qg (ok' :=fun k_=>ob k_ v656) (Kd.R_keptB (HO650.out) hkp (fun k_ hk_ hs_=>(hk_.2) hs_)) (fun k_ hk_=>fun e_=>Or.elim (ho0.1 k_ e_.symm) (fun hs_=>hk_.2.1 hs_) (fun hn_=>Nat.not_le.2 hk_.2.2 hn_)))
  have _:=qm (qg (ok' :=fun k_=>ob k_ (.slice Ao48 y648.length co48)) ho0 (fun k_ hk_=>Or.elim hk_ (fun hs_=>fun e_=>(((HO650.out).1 k_ e_.symm).2) hs_) (fun hn_=>(Kd.fresh' (Kd.R_lt HO650.out) k_ hn_))))
  have _:=qm (hb)
  clear BK621 HO650 HB HO653
  rename_i BK621 HO650 HO657 HB
  (try clear hb)
  (try clear hkp)
  (try clear ho0)
  refine hK.out _ _ (fz8 BK621.out) (fun hHeld=>?_)
  clear hK K
  refine norm_ (a' :=?_) ?_ ?_
  rotate_left
  ·show Act.put _ (some 71) _=_
   simp only [Act.put,s1,s2,s3,i64_w,i32_w]
   rfl
  refine pu 9 4 (bm 10 10) HT_ (h:=⟨_,by intro w';go_simp;with_reducible rfl,_,by simp only [Act.put,s1,s2,s3,i64_w,i32_w];rfl,?_⟩)
  refine done_ (done_of HT_.out (by kernel_rfl)) ?_
  try go_wp2
  go_ret
  exact ⟨_,by first|rfl|(simp <;> rfl)|(simp [*] <;> rfl),by (with_reducible repeat (first|apply qb|apply qc|apply qd));exact qg HO657.out (fun _ hk=>trivial),HB.out⟩
 rw [if_neg c39] at H
 exact absurd H (by simp)
end Go.Proofs.Ytcdkbdkanjifeaa.SFnExactProtectPacket
