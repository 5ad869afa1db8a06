/- The walk of functions that the law FnExactProtectPacket uses, written by program. -/
import Derived.Test.YtcdkbdkanjifeaaSFnExactProtectPacketx0
import Derived.Test.YtcdkbdkanjifeaaSFnExactProtectPacketx11
import Derived.Test.YtcdkbdkanjifeaaSFnExactProtectPacketx14
import Derived.Lib.SmallJoins
import Derived.Test.YtcdkbdkanjifeaaSteps2
import Derived.Test.YtcdkbdkanjifeaaSteps3
namespace Go.Proofs.Ytcdkbdkanjifeaa.SFnExactProtectPacket
open Go.Proofs.Ytcdkbdkanjifeaa.Steps3 Go.Proofs.Ytcdkbdkanjifeaa.Steps2 Go.RowKit Go.Proofs.YtcdkbdkanjifeaaW.PrintWords Go.Proofs.YtcdkbdkanjifeaaW.PrintLast Go.Proofs.YtcdkbdkanjifeaaW.PrintMore
open Go.Proofs.YtcdkbdkanjifeaaW.PrintWords renaming below_alloc → qh, pw_below_drewN → qi, below_drew1 → qj
open Go.Proofs.YtcdkbdkanjifeaaW.PrintWords.Kd renaming R_mono → qg
open Go.Proofs.YtcdkbdkanjifeaaW.PrintWords.Aside0 renaming mk → qm
attribute [local go_sem] max2_int min2_int max_two min_two max_three min_three max_four min_four 
set_option linter.unusedVariables false
set_option linter.unusedSimpArgs false
def vmark (n:Int):Int:=if n=2 then 64 else if n=4 then 128 else if n=8 then 192 else 0
theorem vmark_cells (n:Int) (h0:0≤n) (h1:n<9):(#[Value.int IntKind.u8 0,Value.int IntKind.u8 0,Value.int IntKind.u8 64,Value.int IntKind.u8 0,Value.int IntKind.u8 128,Value.int IntKind.u8 0,Value.int IntKind.u8 0,Value.int IntKind.u8 0,Value.int IntKind.u8 192]:Array Value)[n.toNat]? =some (.int .u8 (vmark n)):=by
 have h:n=0∨n=1∨n=2∨n=3∨n=4∨n=5∨n=6∨n=7∨n=8:=by omega
 rcases h with rfl|rfl|rfl|rfl|rfl|rfl|rfl|rfl|rfl <;> rfl
def impl_addVar.f (k:Nat) (l0:List Int) (a1:Int):Option (List Int):=(impl_VarLen.f a1).bind fun t608=>((impl_fixed.f k l0 a1 t608).bind fun t609=>(if 0≤t608 then (if t608<9 then (if 0≤(l0.length:Int) then (if (l0.length:Int)<(t609.length:Int) then (some (t609.set ((l0.length:Int):Int).toNat (Go.bits .or .u8 (rd t609 (l0.length:Int)) (vmark t608)))) else (none)) else (none)) else (none)) else (none)))
def impl_addVar.T5:Bool×List (List Nat×List Nat):=(true,[([],[]),([],[]),([0,1],[0,1]),([2],[2]),([],[]),([4],[4]),([5],[5]),([3,6],[3,6]),([0,1,0,1,2,3,4,5,6,7],[0,1]),([8,7,0,1,2,3,4,5,6,7],[7,8])])
def impl_addVar.B5:List Nat:=[0,0,3,7,0,16,48,127,255,511]
theorem impl_addVar.tab5:rtab .any (opsOf Try.f88 5)=impl_addVar.T5:=by kernel_rfl
theorem impl_addVar.bits5:waitsOk impl_addVar.T5.2 impl_addVar.B5=true:=by kernel_rfl
set_option maxHeartbeats 8000000 in
set_option maxRecDepth 100000 in
theorem impl_addVar.calls0 (k:Nat) (P0_:Nat→Prop) (u9000_:Value) (l0:List Int) (a1:Int) (r:List Int) (w0 we w:World) (hwe:we=w) (hB:Below w0.heap.size w0 w) (ho0:Kd.R (Kd.int .u8) 5 w w0.heap.size P0_ u9000_ l0) (h:impl_addVar.f k l0 a1=some r) :
  Calls Try.prog 88 #[u9000_, .int .i64 a1] w fun e w' =>∃ v0_:Value,e = .returned (v0_)∧Kd.R (Kd.int .u8) 5 w' w0.heap.size (fun k_=>(P0_ k_∨we.heap.size≤k_)) v0_ r∧Below w0.heap.size w0 w' ∧Kept we w' (fun k_=>P0_ k_):=by
 have HO0:=qm (show Kd.R (Kd.int .u8) 5 w w0.heap.size (fun k_=>(P0_ k_∨we.heap.size≤k_)) u9000_ l0 from qg ho0 (fun k_ hk=>(.inl hk)))
 clear ho0
 have HK:=qm (show Kept we w (fun k_=>P0_ k_) from hwe ▸ Kept.refl w (fun k_=>P0_ k_))
 have HW0:=qm hB.size
 clear hwe
 have HB:=qm hB
 clear hB
 have H:((impl_VarLen.f a1).bind fun t608=>((impl_fixed.f k l0 a1 t608).bind fun t609=>(if 0≤t608 then (if t608<9 then (if 0≤(l0.length:Int) then (if (l0.length:Int)<(t609.length:Int) then (some (t609.set ((l0.length:Int):Int).toNat (Go.bits .or .u8 (rd t609 (l0.length:Int)) (vmark t608)))) else (none)) else (none)) else (none)) else (none))))=some r:=h
 clear h
 replace H:=Option.bind_eq_some_iff.mp H
 obtain ⟨t608,A30,H⟩:=H
 try dsimp only at H
 have A3:=qm A30
 clear A30
 replace H:=Option.bind_eq_some_iff.mp H
 obtain ⟨t609,A40,H⟩:=H
 try dsimp only at H
 have A4:=qm A40
 clear A40
 by_cases c50:0≤t608
 ·rw [if_pos c50] at H
  by_cases c51:t608<9
  ·rw [if_pos c51] at H
   have hmark:=vmark_cells t608 c50 c51
   by_cases c5:0≤(l0.length:Int)
   ·rw [if_pos c5] at H
    have c5b0:decide (0≤(l0.length:Int))=true:=decide_eq_true c5
    have c5b1:decide (0≤l0.length)=true:=decide_eq_true (by omega)
    clear c5
    by_cases c6:(l0.length:Int)<(t609.length:Int)
    ·rw [if_pos c6] at H
     have c6b0:decide ((l0.length:Int)<(t609.length:Int))=true:=decide_eq_true c6
     have c6b1:decide (l0.length<t609.length)=true:=decide_eq_true (Int.ofNat_lt.mp c6)
     clear c6
     obtain ⟨y613,hy613⟩:∃ y_:List Int,y_=(t609.set ((l0.length:Int):Int).toNat (Go.bits .or .u8 (rd t609 (l0.length:Int)) (vmark t608))):=⟨_,rfl⟩
     replace H:(some y613)=some r:=by first|(rw [hy613];with_reducible exact H)|(have H2_:=(Option.bind_some _ _).symm.trans H;rw [hy613];with_reducible exact H2_)|(have H2_:=(Option.bind_some _ _).symm.trans H;with_reducible exact H2_)|with_reducible exact H|(rw [hy613];exact H)|exact H
     have Ny613:=qm hy613
     clear hy613
     obtain rfl:=Option.some.inj H
     have HM:=qm hmark
     clear hmark
     replace c50:=eq_true c50
     replace c51:=eq_true c51
     go_enter Try.func88,Try.ntmps88
     try go_wp2_with (first|((with_reducible refine gate_callee (f:=89) rfl ?_);refine goesL_ (some 9) rfl rfl Try.func89 (by kernel_rfl) rfl #[.int .i64 a1] rfl (by (try simp only [m1,m2,m3]);first|done|rfl) ?_;(with_reducible refine (impl_VarLen.calls a1 t608 _ A3.out).mono ?_);rintro e w' ⟨rfl,⟨nd,rfl⟩⟩;refine ⟨_,rfl,?_⟩;(try (rw [drewN_self w];generalize hq_:World.drewN w _=w;have n0_:Aside0 (Kd.R (Kd.int .u8) 5 w w0.heap.size (fun k_=>(P0_ k_∨we.heap.size≤k_)) u9000_ l0):=⟨by rw [←hq_];exact HO0.out⟩;have n1_:Aside0 (Kept we w (fun k_=>P0_ k_)):=⟨by rw [←hq_];exact (by repeat (first|(with_reducible first|exact HK.out|apply Kept.alloc|apply Kept.drewN|apply Kept.drew)|exact HK.out))⟩;have n2_:Aside0 (Below w0.heap.size w0 w):=⟨by rw [←hq_];exact HB.out⟩;clear HO0 HK HB hq_;have HO0:=n0_;have HK:=n1_;have HB:=n2_));obtain ⟨Ao8,co8,eo8⟩:=Kd.R_slice HO0.out;subst eo8)|((with_reducible refine gate_callee (f:=80) rfl ?_);refine goesL_ (some 15) rfl rfl Try.func80 (by kernel_rfl) rfl #[.slice Ao8 l0.length co8, .int .i64 a1, .int .i64 t608] rfl (by (try simp only [m1,m2,m3]);first|done|rfl) ?_;(with_reducible refine (impl_fixed.calls k (fun k_=>some k_=(.slice Ao8 l0.length co8:Value).ownBlock) (.slice Ao8 l0.length co8) l0 a1 t608 t609 w0 _ ?side1 ?side2 A4.out).mono ?_);(case side1=>repeat (first|(with_reducible first|exact HB.out|apply qh|apply qi|apply qj)|exact HB.out));(case side2=>exact Kd.R_tight rfl HO0.out);rintro e w9 ⟨v610,rfl,ho0,hb,hkp⟩;refine ⟨_,rfl,?_⟩;have _:=qm (qg (ok' :=fun k_=>(P0_ k_∨we.heap.size≤k_)) ho0 (fun k_ hk_=>Or.elim hk_ (fun hs_=>(HO0.out.1 k_ (hs_).symm)) (fun hn_=>(.inr (Nat.le_trans (by first|exact HK.out.1|exact (show Kept we _ (fun k_=>P0_ k_) from by repeat (first|(with_reducible first|exact HK.out|apply Kept.alloc|apply Kept.drewN|apply Kept.drew)|exact HK.out)).1) hn_)))));have _:=qm (Kept.then_ (S:=(fun k_=>P0_ k_)) (by repeat (first|(with_reducible first|exact HK.out|apply Kept.alloc|apply Kept.drewN|apply Kept.drew)|exact HK.out)) hkp (fun k_ hs_=>(fun e_=>(HO0.out.1 k_ e_.symm)) hs_));have _:=qm (hb);clear HK HB HO0;rename_i HO611 HK HB))
     have hx100:(w9.alloc (Obj.cells #[Value.int IntKind.u8 0,Value.int IntKind.u8 0,Value.int IntKind.u8 64,Value.int IntKind.u8 0,Value.int IntKind.u8 128,Value.int IntKind.u8 0,Value.int IntKind.u8 0,Value.int IntKind.u8 0,Value.int IntKind.u8 192] 88)).cell? ⟨w9.heap.size,t608.toNat,none⟩=some (.int .u8 (vmark t608)):=(Go.Joins.cell_alloc_mark_at _ _ _ _ _ _ rfl).trans HM.out
     have m0_:=qm (Kd.R_alloc HO611.out (Obj.cells #[Value.int IntKind.u8 0,Value.int IntKind.u8 0,Value.int IntKind.u8 64,Value.int IntKind.u8 0,Value.int IntKind.u8 128,Value.int IntKind.u8 0,Value.int IntKind.u8 0,Value.int IntKind.u8 0,Value.int IntKind.u8 192] 88))
     have m1_:=qm (Kept.alloc HK.out (Obj.cells #[Value.int IntKind.u8 0,Value.int IntKind.u8 0,Value.int IntKind.u8 64,Value.int IntKind.u8 0,Value.int IntKind.u8 128,Value.int IntKind.u8 0,Value.int IntKind.u8 0,Value.int IntKind.u8 0,Value.int IntKind.u8 192] 88))
     have m2_:=qm (qh HB.out (Obj.cells #[Value.int IntKind.u8 0,Value.int IntKind.u8 0,Value.int IntKind.u8 64,Value.int IntKind.u8 0,Value.int IntKind.u8 128,Value.int IntKind.u8 0,Value.int IntKind.u8 0,Value.int IntKind.u8 0,Value.int IntKind.u8 192] 88))
     clear HO611 HK HB
     have HO611:=m0_
     have HK:=m1_
     have HB:=m2_
     clear m0_ m1_ m2_
     generalize (w9.alloc (Obj.cells #[Value.int IntKind.u8 0,Value.int IntKind.u8 0,Value.int IntKind.u8 64,Value.int IntKind.u8 0,Value.int IntKind.u8 128,Value.int IntKind.u8 0,Value.int IntKind.u8 0,Value.int IntKind.u8 0,Value.int IntKind.u8 192] 88))=wA at HO611 HK HB hx100 ⊢
     generalize w9.heap.size=gA at hx100 ⊢
     have _:=qm (Kd.R_drew HO611.out)
     have _:=qm (Kept.drew HK.out)
     have _:=qm (qj HB.out)
     clear HO611 HK HB
     rename_i HO611 HK HB
     obtain ⟨Ao11,co11,eo11⟩:=Kd.R_slice HO611.out
     (first|subst eo11|(injection eo11 with f1_ f2_ f3_;have f4_:=f1_.symm;have f5_:=f3_.symm;clear f1_ f2_ f3_;subst f4_;subst f5_))
     have p612:0≤((l0.length:Int):Int):=of_decide_eq_true (by assumption)
     have q612:(l0.length:Int)<(t609.length:Int):=of_decide_eq_true (by assumption)
     obtain ⟨ad612,e612,hx612_0⟩:=Kd.at_int (Kd.R_reads' HO611.out).2.2 (l0.length:Int) p612 q612
     cases e612
     (try simp only [Go.IntWalk.toNatUp] at hx612_0)
     replace p612:=eq_true p612
     replace q612:=eq_true q612
     have p7:0≤((l0.length:Int):Int):=of_decide_eq_true (by assumption)
     have q7:((l0.length:Int):Int)<((t609.length:Int):Int):=of_decide_eq_true (by assumption)
     obtain ⟨go7,co7,eo7,gb7,gl7,cl7,HG7⟩:=Kd.R_form HO611.out (by omega)
     (first|cases eo7|(injection eo7 with ea_ en_ ec_;(first|subst ea_|(injection ea_ with ea_;subst ea_));subst ec_;clear en_))
     have GB7:=qm gb7
     have GG7:=qm HG7
     clear gb7 gl7 HG7
     have HMgo7:=qm (show (P0_ go7∨we.heap.size≤go7) from (HO611.out.1 _ rfl))
     (first|simp only [add_plain] at hx612_0|skip)
     obtain ⟨hx7_0,hf7_0⟩:=Kd.R_celln 0 HO611.out ((l0.length:Int):Int) p7 q7
     (try simp only [Go.IntWalk.toNatUp] at hx7_0)
     (try simp only [Go.IntWalk.toNatUp] at hf7_0)
     replace p7:=eq_true p7
     replace q7:=eq_true q7
     have HP12:=Kd.R_putn HO611.out ((l0.length:Int):Int) (Go.bits .or .u8 (rd t609 (l0.length:Int)) (vmark t608))
     rw [←Ny613.out] at HP12
     have HQ12:=qm HP12
     clear HP12
     refine start_ (n:=10) (S:=fun w' =>w'.cell? ⟨go7,l0.length,none⟩=some (.int .u8 (rd t609 (l0.length:Int)))∧w'.cell? ⟨gA,t608.toNat,none⟩=some (.int .u8 (vmark t608))) (ds:=[9]) (bm 0 10) (by kernel_rfl) rfl rfl ⟨hx612_0,hx100⟩ (fun hHeld=>?_);refine with_tabW impl_addVar.tab5 impl_addVar.bits5 (fun HT_ HW_=>?_)
     generalize wA.drew=w10 at HO611 HK HB GG7 HQ12 hf7_0 hx612_0 hx7_0 hHeld ⊢
     refine pu 0 17 (bm 1 10) HT_ (h:=⟨_,by intro w';go_simp;with_reducible rfl,_,by simp only [Act.put,s1,s2,s3,i64_w,i32_w];rfl,?_⟩)
     refine pu 1 18 (bm 2 10) HT_ (h:=⟨_,by intro w';go_simp;with_reducible rfl,_,by simp only [Act.put,s1,s2,s3,i64_w,i32_w];rfl,?_⟩)
     refine pu 2 19 (bm 3 10) HT_ (h:=⟨_,by intro w';go_simp;with_reducible rfl,_,by simp only [Act.put,s1,s2,s3,i64_w,i32_w];rfl,?_⟩)
     refine pu 4 21 (bb 23 10) HT_ (h:=⟨_,by intro w';go_simp;with_reducible rfl,_,by simp only [Act.put,s1,s2,s3,i64_w,i32_w];rfl,?_⟩)
     refine pu 5 22 (bb 55 10) HT_ (h:=⟨_,by intro w';go_simp;with_reducible rfl,_,by simp only [Act.put,s1,s2,s3,i64_w,i32_w];rfl,?_⟩)
     refine tk 6 23 (bb 119 10) HT_ HW_ (hS:=hHeld) (h:=⟨_,by intro w' s0;obtain ⟨s0,s1⟩:=s0;go_simp;with_reducible rfl,_,by simp only [Act.put,s1,s2,s3,i64_w,i32_w];rfl,?_⟩)
     refine tk 3 20 (bm 7 10) HT_ HW_ (hS:=hHeld) (h:=⟨_,by intro w' s0;obtain ⟨s0,s1⟩:=s0;go_simp;with_reducible rfl,_,by simp only [Act.put,s1,s2,s3,i64_w,i32_w];rfl,?_⟩)
     refine pu 7 24 (bm 8 10) HT_ (h:=⟨_,by intro w';go_simp;with_reducible rfl,_,by simp only [Act.put,s1,s2,s3,i64_w,i32_w];rfl,?_⟩)
     refine pu 8 25 (bm 9 10) HT_ (h:=⟨_,by intro w';go_simp;with_reducible rfl,_,by simp only [Act.put,s1,s2,s3,i64_w,i32_w];rfl,?_⟩)
     refine last_ (i:=9) (N:=none) (bm 10 10) rfl rfl (one_of HT_.out (by kernel_rfl)) (by decide) (fun K hK=>?_)
     refine skip_ (w1:=?_) (by rfl) rfl ?_ ?_
     rotate_left
     ·go_simp
      rfl
     refine hK.out _ _ ?_
     clear hK K
     refine done_ (done_of HT_.out (by kernel_rfl)) ?_
     try go_wp2
     go_ret
     exact ⟨_,by first|rfl|(simp <;> rfl)|(simp [*] <;> rfl),HQ12.out,by repeat (first|(with_reducible first|exact HB.out|apply qh|apply qi|apply qj|refine below_set ?_ GB7.out)|exact HB.out),by repeat (first|(with_reducible first|exact HK.out|apply Kept.alloc|apply Kept.drewN|apply Kept.drew|refine Kept.setCell ?_ HMgo7.out _)|exact HK.out)⟩
    rw [if_neg c6] at H
    exact absurd H (by simp)
   rw [if_neg c5] at H
   exact absurd H (by simp)
  rw [if_neg c51] at H
  exact absurd H (by simp)
 rw [if_neg c50] at H
 exact absurd H (by simp)
theorem impl_addVar.calls (k:Nat) (P0_:Nat→Prop) (u9000_:Value) (l0:List Int) (a1:Int) (r:List Int) (w0 w:World) (hB:Below w0.heap.size w0 w) (ho0:Kd.R (Kd.int .u8) 5 w w0.heap.size P0_ u9000_ l0) (h:impl_addVar.f k l0 a1=some r) :
  Calls Try.prog 88 #[u9000_, .int .i64 a1] w fun e w' =>∃ v0_:Value,e = .returned (v0_)∧Kd.R (Kd.int .u8) 5 w' w0.heap.size (fun k_=>(P0_ k_∨w.heap.size≤k_)) v0_ r∧Below w0.heap.size w0 w' ∧Kept w w' (fun k_=>P0_ k_):=
 impl_addVar.calls0 k P0_ u9000_ l0 a1 r w0 w w rfl hB ho0 h
def impl_addCounted.f (k:Nat) (l0:List Int) (l1:List Int):Option (List Int):=(impl_addVar.f k l0 (l1.length:Int)).bind fun t614=>(if t614.length+l1.length<140737488355328 then (some (t614 ++ l1)) else (none))
set_option maxHeartbeats 8000000 in
set_option maxRecDepth 100000 in
theorem impl_addCounted.calls (k:Nat) (P0_:Nat→Prop) (u9000_:Value) (l0:List Int) (A1:Option Addr) (c1:Nat) (l1:List Int) (r:List Int) (w0 w:World) (hB:Below w0.heap.size w0 w) (ho0:Kd.R (Kd.int .u8) 5 w w0.heap.size P0_ u9000_ l0) (hr1:∀ W_,Kept w W_ (fun k_=>P0_ k_)→Kd.C (Kd.int .u8) W_ A1 l1.length l1) (hc1:l1.length≤c1) (h:impl_addCounted.f k l0 l1=some r) :
  Calls Try.prog 84 #[u9000_, .slice A1 l1.length c1] w fun e w' =>∃ v0_:Value,e = .returned (v0_)∧Kd.R (Kd.int .u8) 5 w' w0.heap.size (fun k_=>(P0_ k_∨w.heap.size≤k_)) v0_ r∧Below w0.heap.size w0 w' ∧Kept w w' (fun k_=>P0_ k_):=by
 have HO0:=qm (show Kd.R (Kd.int .u8) 5 w w0.heap.size (fun k_=>(P0_ k_∨w.heap.size≤k_)) u9000_ l0 from qg ho0 (fun k_ hk=>(.inl hk)))
 have HR1:=qm hr1
 have HC1:=qm hc1
 clear hr1 hc1
 have HK:=qm (Kept.refl w (fun k_=>P0_ k_))
 have HW0:=qm hB.size
 have HB:=qm hB
 clear hB
 have H:((impl_addVar.f k l0 (l1.length:Int)).bind fun t614=>(if t614.length+l1.length<140737488355328 then (some (t614 ++ l1)) else (none)))=some r:=h
 clear h
 replace H:=Option.bind_eq_some_iff.mp H
 obtain ⟨t614,A30,H⟩:=H
 try dsimp only at H
 have A3:=qm A30
 clear A30
 by_cases c4:t614.length+l1.length<140737488355328
 ·rw [if_pos c4] at H
  have LMc4:=qm c4
  clear c4
  obtain ⟨y617,hy617⟩:∃ y_:List Int,y_=(t614 ++ l1):=⟨_,rfl⟩
  replace H:(some y617)=some r:=by first|(rw [hy617];with_reducible exact H)|(have H2_:=(Option.bind_some _ _).symm.trans H;rw [hy617];with_reducible exact H2_)|(have H2_:=(Option.bind_some _ _).symm.trans H;with_reducible exact H2_)|with_reducible exact H|(rw [hy617];exact H)|exact H
  have Ny617:=qm hy617
  clear hy617
  obtain rfl:=Option.some.inj H
  obtain ⟨Ao5,co5,eo5⟩:=Kd.R_slice HO0.out
  subst eo5
  go_enter Try.func84,Try.ntmps84
  go_wp2_with (first|((with_reducible refine gate_callee (f:=88) rfl ?_);refine goesL_ (some 8) rfl rfl Try.func88 (by kernel_rfl) rfl #[.slice Ao5 l0.length co5, .int .i64 (l1.length:Int)] rfl (by (try simp only [m1,m2,m3]);first|done|rfl) ?_;(with_reducible refine (impl_addVar.calls k (fun k_=>some k_=(.slice Ao5 l0.length co5:Value).ownBlock) (.slice Ao5 l0.length co5) l0 (l1.length:Int) t614 w0 _ ?side1 ?side2 A3.out).mono ?_);(case side1=>repeat (first|(with_reducible first|exact HB.out|apply qh|apply qi|apply qj)|exact HB.out));(case side2=>exact Kd.R_tight rfl HO0.out);rintro e w6 ⟨v615,rfl,ho0,hb,hkp⟩;refine ⟨_,rfl,?_⟩;have _:=qm (qg (ok' :=fun k_=>(P0_ k_∨w.heap.size≤k_)) ho0 (fun k_ hk_=>Or.elim hk_ (fun hs_=>(HO0.out.1 k_ (hs_).symm)) (fun hn_=>(.inr (Nat.le_trans (by first|exact HK.out.1|exact (show Kept w _ (fun k_=>P0_ k_) from by repeat (first|(with_reducible first|exact HK.out|apply Kept.alloc|apply Kept.drewN|apply Kept.drew)|exact HK.out)).1) hn_)))));have _:=qm (Kept.then_ (S:=(fun k_=>P0_ k_)) (by repeat (first|(with_reducible first|exact HK.out|apply Kept.alloc|apply Kept.drewN|apply Kept.drew)|exact HK.out)) hkp (fun k_ hs_=>(fun e_=>(HO0.out.1 k_ e_.symm)) hs_));have _:=qm (hb);clear HK HB HO0;rename_i HO616 HK HB)|((with_reducible refine gate_builtin (b:= .append) (xs:=#[.tmp 8, .tmp 9]) rfl ?_);at_builtin;refine Kd.R_append_rows (Kd.int .u8) (w0:=w0) w0.heap.size rfl (.tmp 8) (.tmp 9) 22 5 (.int .u8 0) 1 rfl Try.underlying22 info5 rfl (by decide) (by omega) v615 t614 l1 _ _ _ (fun k_=>(P0_ k_∨w.heap.size≤k_)) (fun _=>False) rfl rfl ?aO ?aR (fun _ _ h=>h) (fun _ h=>h.elim) ?aF ?aB ?aS ?aL ?_;(case aR=>exact Kd.C_kept_now HR1.out (by repeat (first|(with_reducible first|exact HK.out|apply Kept.alloc|apply Kept.drewN|apply Kept.drew)|exact HK.out)));(case aB=>exact HB.out);(case aF=>exact (fun k_ hk=>(.inr (Nat.le_trans (by first|exact HK.out.1|exact (show Kept w _ (fun k_=>P0_ k_) from by repeat (first|(with_reducible first|exact HK.out|apply Kept.alloc|apply Kept.drewN|apply Kept.drew)|exact HK.out)).1) hk))));(case aO=>exact HO616.out);(case aS=>exact (below_size HB.out));(case aL=>have:=LMc4.out;omega);intro v618 w7 ho hb hg hat;rw [←Ny617.out] at ho;have _:=qm (hb);have _:=qm (Kept.of_grown (S:=(fun k_=>P0_ k_)) hg (by repeat (first|(with_reducible first|exact HK.out|apply Kept.alloc|apply Kept.drewN|apply Kept.drew)|exact HK.out)) (fun k_ e_=>(HO616.out.1 k_ e_)));have _:=qm (ho);clear HB HK HO616;rename_i HB HK HO619;clear ho hb hg hat))
  go_ret
  exact ⟨_,by first|rfl|(simp <;> rfl)|(simp [*] <;> rfl),HO619.out,by repeat (first|(with_reducible first|exact HB.out|apply qh|apply qi|apply qj)|exact HB.out),by repeat (first|(with_reducible first|exact HK.out|apply Kept.alloc|apply Kept.drewN|apply Kept.drew)|exact HK.out)⟩
 rw [if_neg c4] at H
 exact absurd H (by simp)
def impl_CutNum.f (a0:Int) (a1:Int):Option (Int):=(impl_inVar.f a0).bind fun t620=>(if t620=true then (if a1<1 then (some (-1)) else (if a1>4 then (some (-1)) else (if 0≤(wrap64 (8*a1)) then (some (Go.bits .and .i64 a0 (wrap64 ((shl .i64 1 (wrap64 (8*a1))) - 1)))) else (none)))) else (some (-1)))
set_option maxHeartbeats 8000000 in
set_option maxRecDepth 100000 in
theorem impl_CutNum.calls (a0:Int) (a1:Int) (r:Int) (w:World) (h:impl_CutNum.f a0 a1=some r) :
  Calls Try.prog 85 #[.int .i64 a0, .int .i64 a1] w fun e w' =>e = .returned (.int .i64 r)∧Drawn0 w w' :=by
 have H:((impl_inVar.f a0).bind fun t620=>(if t620=true then (if a1<1 then (some (-1)) else (if a1>4 then (some (-1)) else (if 0≤(wrap64 (8*a1)) then (some (Go.bits .and .i64 a0 (wrap64 ((shl .i64 1 (wrap64 (8*a1))) - 1)))) else (none)))) else (some (-1))))=some r:=h
 clear h
 replace H:=Option.bind_eq_some_iff.mp H
 obtain ⟨t620,A30,H⟩:=H
 try dsimp only at H
 have A3:=qm A30
 clear A30
 by_cases c4:t620=true
 ·subst c4
  rw [if_pos rfl] at H
  by_cases c5:a1<1
  ·rw [if_pos c5] at H
   have c5b0:decide (a1<1)=true:=decide_eq_true c5
   clear c5
   obtain rfl:=Option.some.inj H
   go_enter Try.func85,Try.ntmps85
   go_wp2_with (first|((with_reducible refine gate_callee (f:=67) rfl ?_);refine goesL_ (some 6) rfl rfl Try.func67 (by kernel_rfl) rfl #[.int .i64 a0] rfl (by (try simp only [m1,m2,m3]);first|done|rfl) ?_;(with_reducible refine (impl_inVar.calls a0 true _ A3.out).mono ?_);rintro e w' ⟨rfl,⟨nd,rfl⟩⟩;refine ⟨_,rfl,?_⟩))
   go_ret
   exact ⟨by first|rfl|(simp;done)|(simp [*];done),by repeat (first|exact Drawn0.refl _|apply Drawn0.step)⟩
  rw [if_neg c5] at H
  have c5b0:decide (a1<1)=false:=decide_eq_false c5
  clear c5
  by_cases c6:a1>4
  ·rw [if_pos c6] at H
   have c6b0:decide (4<a1)=true:=decide_eq_true c6
   clear c6
   obtain rfl:=Option.some.inj H
   go_enter Try.func85,Try.ntmps85
   go_wp2_with (first|((with_reducible refine gate_callee (f:=67) rfl ?_);refine goesL_ (some 6) rfl rfl Try.func67 (by kernel_rfl) rfl #[.int .i64 a0] rfl (by (try simp only [m1,m2,m3]);first|done|rfl) ?_;(with_reducible refine (impl_inVar.calls a0 true _ A3.out).mono ?_);rintro e w' ⟨rfl,⟨nd,rfl⟩⟩;refine ⟨_,rfl,?_⟩))
   go_ret
   exact ⟨by first|rfl|(simp;done)|(simp [*];done),by repeat (first|exact Drawn0.refl _|apply Drawn0.step)⟩
  rw [if_neg c6] at H
  have c6b0:decide (4<a1)=false:=decide_eq_false c6
  clear c6
  obtain ⟨ji7,hji7⟩:∃ j_:Int,(wrap64 (8*a1))=j_:=⟨_,rfl⟩
  replace H:(if 0≤(ji7) then (some (Go.bits .and .i64 a0 (wrap64 ((shl .i64 1 (ji7)) - 1)))) else (none))=some r:=by first|(rw [hji7] at H;exact H)|(simp only [hji7] at H ⊢;exact H)
  (try rw [hji7] at A3)
  have hji7w:(IntKind.i64.wrap (8*a1))=ji7:=(i64_w _).trans hji7
  by_cases c8:0≤(ji7)
  ·rw [if_pos c8] at H
   have c8b0:=eq_true c8
   have c8b1:decide (0≤(ji7))=true:=decide_eq_true c8
   clear c8
   obtain ⟨ji9,hji9⟩:∃ j_:Int,(shl .i64 1 (ji7))=j_:=⟨_,rfl⟩
   replace H:(some (Go.bits .and .i64 a0 (wrap64 ((ji9) - 1))))=some r:=by first|(rw [hji9] at H;exact H)|(simp only [hji9] at H ⊢;exact H)
   (try rw [hji9] at A3)
   have hji9_:(IntKind.i64.wrap (1*2 ^ min (ji7).toNat 64))=ji9:=hji9
   have hji9z:(ji7)≤64→(IntKind.i64.wrap (1*2 ^ (ji7).toNat))=ji9:=shl_small hji9
   have hji9u:(IntKind.i64.wrap (2 ^ min (ji7).toNat 64))=ji9:=by have h_:=hji9_;rw [Int.one_mul] at h_;exact h_
   have hji9v:(ji7)≤64→(IntKind.i64.wrap (2 ^ (ji7).toNat))=ji9:=fun hle_=>by have h_:=hji9z hle_;rw [Int.one_mul] at h_;exact h_
   have hji9y:(wrap64 (1*2 ^ min (ji7).toNat 64))=ji9:=(i64_w _).symm.trans hji9_
   have hji9x:(ji7)≤64→(wrap64 (1*2 ^ (ji7).toNat))=ji9:=fun h_=>(i64_w _).symm.trans (hji9z h_)
   obtain rfl:=Option.some.inj H
   go_enter Try.func85,Try.ntmps85
   go_wp2_with (first|((with_reducible refine gate_callee (f:=67) rfl ?_);refine goesL_ (some 6) rfl rfl Try.func67 (by kernel_rfl) rfl #[.int .i64 a0] rfl (by (try simp only [m1,m2,m3]);first|done|rfl) ?_;(with_reducible refine (impl_inVar.calls a0 true _ A3.out).mono ?_);rintro e w' ⟨rfl,⟨nd,rfl⟩⟩;refine ⟨_,rfl,?_⟩))
   go_ret
   exact ⟨by first|rfl|(simp;done)|(simp only [←hji7,←hji9] <;> (first|rfl|simp))|(simp [*];done),by repeat (first|exact Drawn0.refl _|apply Drawn0.step)⟩
  rw [if_neg c8] at H
  exact absurd H (by simp)
 replace c4:=Bool.eq_false_iff.mpr c4
 subst c4
 rw [if_neg nt] at H
 obtain rfl:=Option.some.inj H
 go_enter Try.func85,Try.ntmps85
 go_wp2_with (first|((with_reducible refine gate_callee (f:=67) rfl ?_);refine goesL_ (some 6) rfl rfl Try.func67 (by kernel_rfl) rfl #[.int .i64 a0] rfl (by (try simp only [m1,m2,m3]);first|done|rfl) ?_;(with_reducible refine (impl_inVar.calls a0 false _ A3.out).mono ?_);rintro e w' ⟨rfl,⟨nd,rfl⟩⟩;refine ⟨_,rfl,?_⟩))
 go_ret
 exact ⟨by first|rfl|(simp;done)|(simp [*];done),by repeat (first|exact Drawn0.refl _|apply Drawn0.step)⟩
end Go.Proofs.Ytcdkbdkanjifeaa.SFnExactProtectPacket
