/- The walk of functions that the law FnExactProtectPacket uses, written by program. -/
import Derived.Test.YtcdkbdkanjifeaaSFnExactProtectPacketx0
import Derived.Test.YtcdkbdkanjifeaaSteps2
import Derived.Test.YtcdkbdkanjifeaaSteps3
namespace Go.Proofs.Ytcdkbdkanjifeaa.SFnExactProtectPacket
open Go.Proofs.Ytcdkbdkanjifeaa.Steps3 Go.Proofs.Ytcdkbdkanjifeaa.Steps2 Go.RowKit Go.Proofs.YtcdkbdkanjifeaaW.PrintWords Go.Proofs.YtcdkbdkanjifeaaW.PrintLast Go.Proofs.YtcdkbdkanjifeaaW.PrintMore
open Go.Proofs.YtcdkbdkanjifeaaW.PrintWords renaming below_alloc → qh, pw_below_drewN → qi, below_drew1 → qj
open Go.Proofs.YtcdkbdkanjifeaaW.PrintWords.Kd renaming R_alloc → qb, R_drewN → qc, R_drew → qd, R_reads' → qe
open Go.Proofs.YtcdkbdkanjifeaaW.PrintWords.Aside0 renaming mk → qm
attribute [local go_sem] max2_int min2_int max_two min_two max_three min_three max_four min_four 
set_option linter.unusedVariables false
set_option linter.unusedSimpArgs false
mutual
def impl_masked.j0:Nat→List Int→Int→List Int→Option (List Int)
 |0,_,_,_=>none
 |k+1,x0,x2,x3=>impl_masked.l0 k x0 x3 (wrap64 ((x0.length:Int) - x2)) x2 0
def impl_masked.l0:Nat→List Int→List Int→Int→Int→Int→Option (List Int)
 |0,_,_,_,_,_=>none
 |k+1,x0,x3,x8,x33,x34=>if x34<x33 then (if 0≤(wrap64 (x8+x34)) then (if (wrap64 (x8+x34))<(x0.length:Int) then (if 0≤(wrap64 (1+x34)) then (if (wrap64 (1+x34))<(x3.length:Int) then (impl_masked.l0 k (x0.set ((wrap64 (x8+x34)):Int).toNat (Go.bits .xor .u8 (rd x0 (wrap64 (x8+x34))) (rd x3 (wrap64 (1+x34))))) x3 x8 x33 (wrap64 (x34+1))) else (none)) else (none)) else (none)) else (none)) else (some x0)
end
def impl_masked.f (k:Nat) (l0:List Int) (a1:Bool) (a2:Int) (l3:List Int):Option (List Int):=if a1=true then (if 0<(l0.length:Int) then (if 0<(l3.length:Int) then (impl_masked.j0 k (l0.set (0:Int).toNat (Go.bits .xor .u8 (rd l0 0) (Go.bits .and .u8 (rd l3 0) 31))) a2 l3) else (none)) else (none)) else (if 0<(l0.length:Int) then (if 0<(l3.length:Int) then (impl_masked.j0 k (l0.set (0:Int).toNat (Go.bits .xor .u8 (rd l0 0) (Go.bits .and .u8 (rd l3 0) 15))) a2 l3) else (none)) else (none))
def impl_masked.T1:Bool×List (List Nat×List Nat):=(true,[([],[]),([0],[0]),([1],[1]),([],[]),([3],[3]),([4],[4]),([5],[5]),([2,6],[2,6]),([0,0,1,2,3,4,5,6,7],[0]),([8,7,0,1,2,3,4,5,6,7],[7,8])])
def impl_masked.B1:List Nat:=[0,1,3,0,8,24,56,127,255,511]
theorem impl_masked.tab1:rtab .any (opsOf Try.f77 1)=impl_masked.T1:=by kernel_rfl
theorem impl_masked.bits1:waitsOk impl_masked.T1.2 impl_masked.B1=true:=by kernel_rfl
def impl_masked.T2:Bool×List (List Nat×List Nat):=(true,[([],[]),([0],[0]),([1],[1]),([],[]),([3],[3]),([4],[4]),([5],[5]),([2,6],[2,6]),([0,0,1,2,3,4,5,6,7],[0]),([8,7,0,1,2,3,4,5,6,7],[7,8])])
def impl_masked.B2:List Nat:=[0,1,3,0,8,24,56,127,255,511]
theorem impl_masked.tab2:rtab .any (opsOf Try.f77 2)=impl_masked.T2:=by kernel_rfl
theorem impl_masked.bits2:waitsOk impl_masked.T2.2 impl_masked.B2=true:=by kernel_rfl
def impl_masked.T7:Bool×List (List Nat×List Nat):=(true,[([],[]),([],[]),([],[]),([1,2],[1,2]),([0,3],[0,3]),([4],[4]),([],[]),([],[]),([7],[7]),([6,8],[6,8]),([9],[9]),([5,10],[5,10]),([0,3,0,1,2,3,4,5,6,7,8,9,10,11],[0,3]),([12,11,0,1,2,3,4,5,6,7,8,9,10,11],[11,12])])
def impl_masked.B7:List Nat:=[0,0,0,6,15,31,0,0,128,448,960,2047,4095,8191]
theorem impl_masked.tab7:rtab .any (opsOf Try.f77 7)=impl_masked.T7:=by kernel_rfl
theorem impl_masked.bits7:waitsOk impl_masked.T7.2 impl_masked.B7=true:=by kernel_rfl
set_option maxHeartbeats 8000000 in
set_option maxRecDepth 100000 in
theorem impl_masked.calls (k:Nat) (P0_:Nat→Prop) (u9000_:Value) (l0:List Int) (a1:Bool) (a2:Int) (A3:Option Addr) (c3:Nat) (l3:List Int) (r:List Int) (w0 w:World) (hB:Below w0.heap.size w0 w) (ho0:Kd.R (Kd.int .u8) 5 w w0.heap.size P0_ u9000_ l0) (hr3:∀ W_,Kept w W_ (fun k_=>P0_ k_)→Kd.C (Kd.int .u8) W_ A3 l3.length l3) (hc3:l3.length≤c3) (h:impl_masked.f k l0 a1 a2 l3=some r) :
  Calls Try.prog 77 #[u9000_, .bool a1, .int .i64 a2, .slice A3 l3.length c3] w fun e w' =>e = .returned (.tuple #[])∧Kd.R (Kd.int .u8) 5 w' w0.heap.size (fun k_=>(P0_ k_∨w.heap.size≤k_)) u9000_ r∧Below w0.heap.size w0 w' ∧Kept w w' (fun k_=>P0_ k_):=by
 have HO0:=qm (show Kd.R (Kd.int .u8) 5 w w0.heap.size (fun k_=>(P0_ k_∨w.heap.size≤k_)) u9000_ l0 from Kd.R_mono ho0 (fun k_ hk=>(.inl hk)))
 have HR3:=qm hr3
 have HC3:=qm hc3
 clear hr3 hc3
 have HK:=qm (Kept.refl w (fun k_=>P0_ k_))
 have HW0:=qm hB.size
 have HB:=qm hB
 clear hB
 have H:(if a1=true then (if 0<(l0.length:Int) then (if 0<(l3.length:Int) then (impl_masked.j0 k (l0.set (0:Int).toNat (Go.bits .xor .u8 (rd l0 0) (Go.bits .and .u8 (rd l3 0) 31))) a2 l3) else (none)) else (none)) else (if 0<(l0.length:Int) then (if 0<(l3.length:Int) then (impl_masked.j0 k (l0.set (0:Int).toNat (Go.bits .xor .u8 (rd l0 0) (Go.bits .and .u8 (rd l3 0) 15))) a2 l3) else (none)) else (none)))=some r:=h
 clear h
 have HC5:=qm H
 clear H
 go_enter Try.func77,Try.ntmps77
 go_upto_if 10 with (fail)
 go_cut [] (fun wc=>∃ (kq:Nat) (x0_4:List Int),Aside0 (impl_masked.j0 kq x0_4 a2 l3=some r)∧Aside0 (kq≤k)∧Aside0 (Kd.R (Kd.int .u8) 5 wc w0.heap.size (fun k_=>(P0_ k_∨w.heap.size≤k_)) u9000_ x0_4)∧Aside0 (Kept w wc (fun k_=>P0_ k_))∧Aside0 (Below w0.heap.size w0 wc))
 case first=>
  have H:=HC5.out
  clear HC5
  by_cases c6:a1=true
  ·subst c6
   rw [if_pos rfl] at H
   by_cases c7:0<(l0.length:Int)
   ·rw [if_pos c7] at H
    have c7b0:decide (0<(l0.length:Int))=true:=decide_eq_true c7
    have c7b1:decide (0<l0.length)=true:=decide_eq_true (by omega)
    clear c7
    (first|rw [c7b0]|(simp only [i64_w,i32_w];rw [c7b0])|skip)
    by_cases c8:0<(l3.length:Int)
    ·rw [if_pos c8] at H
     have c8b0:decide (0<(l3.length:Int))=true:=decide_eq_true c8
     have c8b1:decide (0<l3.length)=true:=decide_eq_true (by omega)
     clear c8
     obtain ⟨y660,hy660⟩:∃ y_:List Int,y_=(l0.set (0:Int).toNat (Go.bits .xor .u8 (rd l0 0) (Go.bits .and .u8 (rd l3 0) 31))):=⟨_,rfl⟩
     replace H:(impl_masked.j0 k y660 a2 l3)=some r:=by first|(rw [hy660];with_reducible exact H)|(have H2_:=(Option.bind_some _ _).symm.trans H;rw [hy660];with_reducible exact H2_)|(have H2_:=(Option.bind_some _ _).symm.trans H;with_reducible exact H2_)|with_reducible exact H|(rw [hy660];exact H)|exact H
     have Ny660:=qm hy660
     clear hy660
     have H' :=qm H
     clear H
     try go_wp2
     have _:=qm (qd HO0.out)
     have _:=qm (Kept.drew HK.out)
     have _:=qm (qj HB.out)
     clear HO0 HK HB
     rename_i HO0 HK HB
     obtain ⟨Ao11,co11,eo11⟩:=Kd.R_slice HO0.out
     (first|subst eo11|(injection eo11 with f1_ f2_ f3_;have f4_:=f1_.symm;have f5_:=f3_.symm;clear f1_ f2_ f3_;subst f4_;subst f5_))
     have p658:0≤(0:Int):=(by omega)
     have q658:0<(l0.length:Int):=of_decide_eq_true (by assumption)
     obtain ⟨ad658,e658,hx658_0⟩:=Kd.at_int (qe HO0.out).2.2 0 p658 q658
     cases e658
     have qi658:(0<l0.length)=True:=eq_true (by omega)
     (try rw [show ((0:Int)).toNat=0 from rfl] at hx658_0)
     (try rw [Addr.add_zero'] at hx658_0)
     replace p658:=eq_true p658
     replace q658:=eq_true q658
     have p659:0≤(0:Int):=(by omega)
     have q659:0<(l3.length:Int):=of_decide_eq_true (by assumption)
     obtain ⟨ad659,e659,hx659_0⟩:=Kd.at_int (Kd.C_kept_now HR3.out HK.out) 0 p659 q659
     have hw659_0:=hx659_0
     (try rw [show ((0:Int)).toNat=0 from rfl] at hw659_0)
     (try rw [show 0*1=0 from rfl] at hw659_0)
     (try rw [Addr.add_zero'] at hw659_0)
     cases e659
     have qi659:(0<l3.length)=True:=eq_true (by omega)
     (try rw [show ((0:Int)).toNat=0 from rfl] at hx659_0)
     (try rw [Addr.add_zero'] at hx659_0)
     replace p659:=eq_true p659
     replace q659:=eq_true q659
     have p9:0≤(0:Int):=(by omega)
     have q9:(0:Int)<((l0.length:Int):Int):=of_decide_eq_true (by assumption)
     have qi9:(0<l0.length)=True:=eq_true (by omega)
     obtain ⟨go9,co9,eo9,gb9,gl9,cl9,HG9⟩:=Kd.R_form HO0.out (by omega)
     (first|cases eo9|(injection eo9 with ea_ en_ ec_;(first|subst ea_|(injection ea_ with ea_;subst ea_));subst ec_;clear en_))
     have GB9:=qm gb9
     have GG9:=qm HG9
     clear gb9 gl9 HG9
     have HMgo9:=qm (show (P0_ go9∨w.heap.size≤go9) from (HO0.out.1 _ rfl))
     (first|simp only [add_plain] at hx658_0|skip)
     obtain ⟨hx9_0,hf9_0⟩:=Kd.R_celln 0 HO0.out (0:Int) p9 q9
     (try rw [show ((0:Int)).toNat=0 from rfl] at hx9_0)
     (try simp only [Nat.reduceMul,Nat.zero_mul,Nat.zero_add,Nat.reduceAdd] at hx9_0)
     (try rw [show ((0:Int)).toNat=0 from rfl] at hf9_0)
     (try simp only [Nat.reduceMul,Nat.zero_mul,Nat.zero_add,Nat.reduceAdd] at hf9_0)
     replace p9:=eq_true p9
     replace q9:=eq_true q9
     have HP12:=Kd.R_putn HO0.out (0:Int) (Go.bits .xor .u8 (rd l0 0) (Go.bits .and .u8 (rd l3 0) 31))
     rw [←Ny660.out] at HP12
     have HQ12:=qm HP12
     clear HP12
     refine start_ (n:=10) (S:=fun w' =>w'.cell? ⟨go9,0,none⟩=some (.int .u8 (rd l0 0))∧w'.cell? ad659=some (.int .u8 (rd l3 0))) (ds:=[9]) (bm 0 10) (by kernel_rfl) rfl rfl ⟨hx658_0,(by have h_:=Kd.foot_int (HR3.out _ (by repeat (first|exact HK.out|apply Kept.alloc|apply Kept.drewN|apply Kept.drew|refine Kept.setCell ?_ HMgo9.out _))) (0:Int) (of_eq_true p659) (of_eq_true q659);rw [show ((0:Int)).toNat=0 from rfl,Addr.add_zero'] at h_;exact h_)⟩ (fun hHeld=>?_);refine with_tabW impl_masked.tab1 impl_masked.bits1 (fun HT_ HW_=>?_)
     generalize w.drew=w10 at HO0 HK HB GG9 HQ12 hf9_0 hx658_0 hx659_0 hx9_0 hHeld ⊢
     refine pu 0 11 (bm 1 10) HT_ (h:=⟨_,by intro w';go_simp;with_reducible rfl,_,by simp only [Act.put,s1,s2,s3,i64_w,i32_w];rfl,?_⟩)
     refine pu 1 12 (bm 2 10) HT_ (h:=⟨_,by intro w';go_simp;with_reducible rfl,_,by simp only [Act.put,s1,s2,s3,i64_w,i32_w];rfl,?_⟩)
     refine pu 3 14 (bb 11 10) HT_ (h:=⟨_,by intro w';go_simp;with_reducible rfl,_,by simp only [Act.put,s1,s2,s3,i64_w,i32_w];rfl,?_⟩)
     refine pu 4 15 (bb 27 10) HT_ (h:=⟨_,by intro w';go_simp;with_reducible rfl,_,by simp only [Act.put,s1,s2,s3,i64_w,i32_w];rfl,?_⟩)
     refine tk 2 13 (bm 5 10) HT_ HW_ (hS:=hHeld) (h:=⟨_,by rintro w' ⟨s0,s1⟩;go_simp;with_reducible rfl,_,by simp only [Act.put,s1,s2,s3,i64_w,i32_w];rfl,?_⟩)
     refine tk 5 16 (bm 6 10) HT_ HW_ (hS:=hHeld) (h:=⟨_,by rintro w' ⟨s0,s1⟩;go_simp;with_reducible rfl,_,by simp only [Act.put,s1,s2,s3,i64_w,i32_w];rfl,?_⟩)
     refine pu 6 17 (bm 7 10) HT_ (h:=⟨_,by intro w';go_simp;with_reducible rfl,_,by simp only [Act.put,s1,s2,s3,i64_w,i32_w];rfl,?_⟩)
     refine pu 7 18 (bm 8 10) HT_ (h:=⟨_,by intro w';go_simp;with_reducible rfl,_,by simp only [Act.put,s1,s2,s3,i64_w,i32_w];rfl,?_⟩)
     refine pu 8 19 (bm 9 10) HT_ (h:=⟨_,by intro w';go_simp;with_reducible rfl,_,by simp only [Act.put,s1,s2,s3,i64_w,i32_w];rfl,?_⟩)
     refine last_ (i:=9) (N:=none) (bm 10 10) rfl rfl (one_of HT_.out (by kernel_rfl)) (by decide) (fun K hK=>?_)
     refine skip_ (w1:=?_) (by rfl) rfl ?_ ?_
     rotate_left
     ·go_simp
      rfl
     refine hK.out _ _ ?_
     clear hK K
     refine done_ (done_of HT_.out (by kernel_rfl)) ?_
     try go_wp2
     go_meet
     case rel=>exact ⟨_,(y660),H',⟨by first|omega|exact Nat.le_refl _⟩,⟨by (with_reducible repeat (first|apply qb|apply qc|apply qd));exact HQ12.out⟩,⟨by repeat (first|(with_reducible first|exact HK.out|apply Kept.alloc|apply Kept.drewN|apply Kept.drew|refine Kept.setCell ?_ HMgo9.out _)|exact HK.out)⟩,⟨by repeat (first|(with_reducible first|exact HB.out|apply qh|apply qi|apply qj|refine below_set ?_ GB9.out)|exact HB.out)⟩⟩
    rw [if_neg c8] at H
    exact absurd H (by simp)
   rw [if_neg c7] at H
   exact absurd H (by simp)
  replace c6:=Bool.eq_false_iff.mpr c6
  subst c6
  rw [if_neg nt] at H
  by_cases c13:0<(l0.length:Int)
  ·rw [if_pos c13] at H
   have c13b0:decide (0<(l0.length:Int))=true:=decide_eq_true c13
   have c13b1:decide (0<l0.length)=true:=decide_eq_true (by omega)
   clear c13
   by_cases c14:0<(l3.length:Int)
   ·rw [if_pos c14] at H
    have c14b0:decide (0<(l3.length:Int))=true:=decide_eq_true c14
    have c14b1:decide (0<l3.length)=true:=decide_eq_true (by omega)
    clear c14
    obtain ⟨y663,hy663⟩:∃ y_:List Int,y_=(l0.set (0:Int).toNat (Go.bits .xor .u8 (rd l0 0) (Go.bits .and .u8 (rd l3 0) 15))):=⟨_,rfl⟩
    replace H:(impl_masked.j0 k y663 a2 l3)=some r:=by first|(rw [hy663];with_reducible exact H)|(have H2_:=(Option.bind_some _ _).symm.trans H;rw [hy663];with_reducible exact H2_)|(have H2_:=(Option.bind_some _ _).symm.trans H;with_reducible exact H2_)|with_reducible exact H|(rw [hy663];exact H)|exact H
    have Ny663:=qm hy663
    clear hy663
    have H' :=qm H
    clear H
    try go_wp2
    have _:=qm (qd HO0.out)
    have _:=qm (Kept.drew HK.out)
    have _:=qm (qj HB.out)
    clear HO0 HK HB
    rename_i HO0 HK HB
    obtain ⟨Ao17,co17,eo17⟩:=Kd.R_slice HO0.out
    (first|subst eo17|(injection eo17 with f1_ f2_ f3_;have f4_:=f1_.symm;have f5_:=f3_.symm;clear f1_ f2_ f3_;subst f4_;subst f5_))
    have p661:0≤(0:Int):=(by omega)
    have q661:0<(l0.length:Int):=of_decide_eq_true (by assumption)
    obtain ⟨ad661,e661,hx661_0⟩:=Kd.at_int (qe HO0.out).2.2 0 p661 q661
    cases e661
    have qi661:(0<l0.length)=True:=eq_true (by omega)
    (try rw [show ((0:Int)).toNat=0 from rfl] at hx661_0)
    (try rw [Addr.add_zero'] at hx661_0)
    replace p661:=eq_true p661
    replace q661:=eq_true q661
    have p662:0≤(0:Int):=(by omega)
    have q662:0<(l3.length:Int):=of_decide_eq_true (by assumption)
    obtain ⟨ad662,e662,hx662_0⟩:=Kd.at_int (Kd.C_kept_now HR3.out HK.out) 0 p662 q662
    have hw662_0:=hx662_0
    (try rw [show ((0:Int)).toNat=0 from rfl] at hw662_0)
    (try rw [show 0*1=0 from rfl] at hw662_0)
    (try rw [Addr.add_zero'] at hw662_0)
    cases e662
    have qi662:(0<l3.length)=True:=eq_true (by omega)
    (try rw [show ((0:Int)).toNat=0 from rfl] at hx662_0)
    (try rw [Addr.add_zero'] at hx662_0)
    replace p662:=eq_true p662
    replace q662:=eq_true q662
    have p15:0≤(0:Int):=(by omega)
    have q15:(0:Int)<((l0.length:Int):Int):=of_decide_eq_true (by assumption)
    have qi15:(0<l0.length)=True:=eq_true (by omega)
    obtain ⟨go15,co15,eo15,gb15,gl15,cl15,HG15⟩:=Kd.R_form HO0.out (by omega)
    (first|cases eo15|(injection eo15 with ea_ en_ ec_;(first|subst ea_|(injection ea_ with ea_;subst ea_));subst ec_;clear en_))
    have GB15:=qm gb15
    have GG15:=qm HG15
    clear gb15 gl15 HG15
    have HMgo15:=qm (show (P0_ go15∨w.heap.size≤go15) from (HO0.out.1 _ rfl))
    (first|simp only [add_plain] at hx661_0|skip)
    obtain ⟨hx15_0,hf15_0⟩:=Kd.R_celln 0 HO0.out (0:Int) p15 q15
    (try rw [show ((0:Int)).toNat=0 from rfl] at hx15_0)
    (try simp only [Nat.reduceMul,Nat.zero_mul,Nat.zero_add,Nat.reduceAdd] at hx15_0)
    (try rw [show ((0:Int)).toNat=0 from rfl] at hf15_0)
    (try simp only [Nat.reduceMul,Nat.zero_mul,Nat.zero_add,Nat.reduceAdd] at hf15_0)
    replace p15:=eq_true p15
    replace q15:=eq_true q15
    have HP18:=Kd.R_putn HO0.out (0:Int) (Go.bits .xor .u8 (rd l0 0) (Go.bits .and .u8 (rd l3 0) 15))
    rw [←Ny663.out] at HP18
    have HQ18:=qm HP18
    clear HP18
    refine start_ (n:=10) (S:=fun w' =>w'.cell? ⟨go15,0,none⟩=some (.int .u8 (rd l0 0))∧w'.cell? ad662=some (.int .u8 (rd l3 0))) (ds:=[9]) (bm 0 10) (by kernel_rfl) rfl rfl ⟨hx661_0,(by have h_:=Kd.foot_int (HR3.out _ (by repeat (first|exact HK.out|apply Kept.alloc|apply Kept.drewN|apply Kept.drew|refine Kept.setCell ?_ HMgo15.out _))) (0:Int) (of_eq_true p662) (of_eq_true q662);rw [show ((0:Int)).toNat=0 from rfl,Addr.add_zero'] at h_;exact h_)⟩ (fun hHeld=>?_);refine with_tabW impl_masked.tab2 impl_masked.bits2 (fun HT_ HW_=>?_)
    generalize w.drew=w16 at HO0 HK HB GG15 HQ18 hf15_0 hx15_0 hx661_0 hx662_0 hHeld ⊢
    refine pu 0 20 (bm 1 10) HT_ (h:=⟨_,by intro w';go_simp;with_reducible rfl,_,by simp only [Act.put,s1,s2,s3,i64_w,i32_w];rfl,?_⟩)
    refine pu 1 21 (bm 2 10) HT_ (h:=⟨_,by intro w';go_simp;with_reducible rfl,_,by simp only [Act.put,s1,s2,s3,i64_w,i32_w];rfl,?_⟩)
    refine pu 3 23 (bb 11 10) HT_ (h:=⟨_,by intro w';go_simp;with_reducible rfl,_,by simp only [Act.put,s1,s2,s3,i64_w,i32_w];rfl,?_⟩)
    refine pu 4 24 (bb 27 10) HT_ (h:=⟨_,by intro w';go_simp;with_reducible rfl,_,by simp only [Act.put,s1,s2,s3,i64_w,i32_w];rfl,?_⟩)
    refine tk 2 22 (bm 5 10) HT_ HW_ (hS:=hHeld) (h:=⟨_,by rintro w' ⟨s0,s1⟩;go_simp;with_reducible rfl,_,by simp only [Act.put,s1,s2,s3,i64_w,i32_w];rfl,?_⟩)
    refine tk 5 25 (bm 6 10) HT_ HW_ (hS:=hHeld) (h:=⟨_,by rintro w' ⟨s0,s1⟩;go_simp;with_reducible rfl,_,by simp only [Act.put,s1,s2,s3,i64_w,i32_w];rfl,?_⟩)
    refine pu 6 26 (bm 7 10) HT_ (h:=⟨_,by intro w';go_simp;with_reducible rfl,_,by simp only [Act.put,s1,s2,s3,i64_w,i32_w];rfl,?_⟩)
    refine pu 7 27 (bm 8 10) HT_ (h:=⟨_,by intro w';go_simp;with_reducible rfl,_,by simp only [Act.put,s1,s2,s3,i64_w,i32_w];rfl,?_⟩)
    refine pu 8 28 (bm 9 10) HT_ (h:=⟨_,by intro w';go_simp;with_reducible rfl,_,by simp only [Act.put,s1,s2,s3,i64_w,i32_w];rfl,?_⟩)
    refine last_ (i:=9) (N:=none) (bm 10 10) rfl rfl (one_of HT_.out (by kernel_rfl)) (by decide) (fun K hK=>?_)
    refine skip_ (w1:=?_) (by rfl) rfl ?_ ?_
    rotate_left
    ·go_simp
     rfl
    refine hK.out _ _ ?_
    clear hK K
    refine done_ (done_of HT_.out (by kernel_rfl)) ?_
    try go_wp2
    go_meet
    case rel=>exact ⟨_,(y663),H',⟨by first|omega|exact Nat.le_refl _⟩,⟨by (with_reducible repeat (first|apply qb|apply qc|apply qd));exact HQ18.out⟩,⟨by repeat (first|(with_reducible first|exact HK.out|apply Kept.alloc|apply Kept.drewN|apply Kept.drew|refine Kept.setCell ?_ HMgo15.out _)|exact HK.out)⟩,⟨by repeat (first|(with_reducible first|exact HB.out|apply qh|apply qi|apply qj|refine below_set ?_ GB15.out)|exact HB.out)⟩⟩
   rw [if_neg c14] at H
   exact absurd H (by simp)
  rw [if_neg c13] at H
  exact absurd H (by simp)
 clear HC5
 try clear c3
 obtain ⟨kq,x0_4,HA,HJ4,HO_0,HK,HB⟩:=hcut
 cases kq with
 |zero=>exact absurd HA.out (by simp [impl_masked.j0])
 |succ kj4=>?_
 have H:=HA.out
 clear HA
 simp only [impl_masked.j0] at H
 have H' :=qm H
 clear H
 obtain ⟨Ao19,co19,eo19⟩:=Kd.R_slice HO_0.out
 subst eo19
 go_wp2
 go_loopg [34] kj4 (fun kq v34 w' =>∃ (x0_2:List Int) (x34_2:Int),v34 = .int .i64 x34_2∧Aside0 (impl_masked.l0 kq x0_2 l3 (wrap64 ((x0_4.length:Int) - a2)) a2 x34_2=some r)∧Aside0 (kq≤kj4)∧Aside0 (Kd.R (Kd.int .u8) 5 w' w0.heap.size (fun k_=>(P0_ k_∨w.heap.size≤k_)) (.slice Ao19 x0_4.length co19) x0_2)∧Aside0 (Kept w w' (fun k_=>P0_ k_))∧Aside0 (Below w0.heap.size w0 w'))
 case atStart=>exact ⟨(x0_4),(0),(by first|rfl|(simp;done)|(simp [*];done)),H',⟨Nat.le_refl _⟩,⟨HO_0.out⟩,⟨by repeat (first|(with_reducible first|exact HK.out|apply Kept.alloc|apply Kept.drewN|apply Kept.drew)|exact HK.out)⟩,⟨HB.out⟩⟩
 case round=>
  clear H'
  try clear c3
  obtain ⟨x0_2,x34_2,rfl,HA,HK2,HO_0,HK,HB⟩:=hrel
  have hl0_2:=(qe HO_0.out).1
  rw [hl0_2] at HO_0
  (try simp only [hl0_2])
  cases gk with
  |zero=>exact absurd HA.out (by simp [impl_masked.l0])
  |succ k2=>?_
  have H:=HA.out
  clear HA
  simp only [impl_masked.l0] at H
  by_cases c20:x34_2<a2
  ·rw [if_pos c20] at H
   have c20b0:decide (x34_2<a2)=true:=decide_eq_true c20
   clear c20
   obtain ⟨ji21,hji21⟩:∃ j_:Int,(wrap64 ((wrap64 ((x0_4.length:Int) - a2))+x34_2))=j_:=⟨_,rfl⟩
   replace H:(if 0≤(ji21) then (if (ji21)<(x0_2.length:Int) then (if 0≤(wrap64 (1+x34_2)) then (if (wrap64 (1+x34_2))<(l3.length:Int) then (impl_masked.l0 k2 (x0_2.set ((ji21):Int).toNat (Go.bits .xor .u8 (rd x0_2 (ji21)) (rd l3 (wrap64 (1+x34_2))))) l3 (wrap64 ((x0_4.length:Int) - a2)) a2 (wrap64 (x34_2+1))) else (none)) else (none)) else (none)) else (none))=some r:=by first|(rw [hji21] at H;exact H)|(simp only [hji21] at H ⊢;exact H)
   have hji21w:(IntKind.i64.wrap ((wrap64 ((x0_4.length:Int) - a2))+x34_2))=ji21:=(i64_w _).trans hji21
   (try simp only [hl0_2] at hji21w)
   by_cases c22:0≤(ji21)
   ·rw [if_pos c22] at H
    have c22b0:decide (0≤(ji21))=true:=decide_eq_true c22
    clear c22
    by_cases c23:(ji21)<(x0_2.length:Int)
    ·rw [if_pos c23] at H
     have c23b0:decide ((ji21)<(x0_2.length:Int))=true:=decide_eq_true c23
     clear c23
     obtain ⟨ji24,hji24⟩:∃ j_:Int,(wrap64 (1+x34_2))=j_:=⟨_,rfl⟩
     replace H:(if 0≤(ji24) then (if (ji24)<(l3.length:Int) then (impl_masked.l0 k2 (x0_2.set ((ji21):Int).toNat (Go.bits .xor .u8 (rd x0_2 (ji21)) (rd l3 (ji24)))) l3 (wrap64 ((x0_4.length:Int) - a2)) a2 (wrap64 (x34_2+1))) else (none)) else (none))=some r:=by first|(rw [hji24] at H;exact H)|(simp only [hji24] at H ⊢;exact H)
     have hji24w:(IntKind.i64.wrap (1+x34_2))=ji24:=(i64_w _).trans hji24
     by_cases c25:0≤(ji24)
     ·rw [if_pos c25] at H
      have c25b0:decide (0≤(ji24))=true:=decide_eq_true c25
      clear c25
      by_cases c26:(ji24)<(l3.length:Int)
      ·rw [if_pos c26] at H
       have c26b0:decide ((ji24)<(l3.length:Int))=true:=decide_eq_true c26
       clear c26
       obtain ⟨y666,hy666⟩:∃ y_:List Int,y_=(x0_2.set ((ji21):Int).toNat (Go.bits .xor .u8 (rd x0_2 (ji21)) (rd l3 (ji24)))):=⟨_,rfl⟩
       replace H:(impl_masked.l0 k2 y666 l3 (wrap64 ((x0_4.length:Int) - a2)) a2 (wrap64 (x34_2+1)))=some r:=by first|(rw [hy666];with_reducible exact H)|(have H2_:=(Option.bind_some _ _).symm.trans H;rw [hy666];with_reducible exact H2_)|(have H2_:=(Option.bind_some _ _).symm.trans H;with_reducible exact H2_)|with_reducible exact H|(rw [hy666];exact H)|exact H
       have Ny666:=qm hy666
       clear hy666
       have H' :=qm H
       clear H
       try go_wp2
       have _:=qm (qd HO_0.out)
       have _:=qm (Kept.drew HK.out)
       have _:=qm (qj HB.out)
       clear HO_0 HK HB
       rename_i HO_0 HK HB
       have p664:0≤((ji21):Int):=of_decide_eq_true (by assumption)
       have q664:(ji21)<(x0_2.length:Int):=of_decide_eq_true (by assumption)
       obtain ⟨ad664,e664,hx664_0⟩:=Kd.at_int (qe HO_0.out).2.2 (ji21) p664 q664
       cases e664
       replace p664:=eq_true p664
       replace q664:=eq_true q664
       have p665:0≤((ji24):Int):=of_decide_eq_true (by assumption)
       have q665:(ji24)<(l3.length:Int):=of_decide_eq_true (by assumption)
       obtain ⟨ad665,e665,hx665_0⟩:=Kd.at_int (Kd.C_kept_now HR3.out HK.out) (ji24) p665 q665
       have hw665_0:=hx665_0
       cases e665
       replace p665:=eq_true p665
       replace q665:=eq_true q665
       have p27:0≤((ji21):Int):=of_decide_eq_true (by assumption)
       have q27:((ji21):Int)<((x0_2.length:Int):Int):=of_decide_eq_true (by assumption)
       obtain ⟨go27,co27,eo27,gb27,gl27,cl27,HG27⟩:=Kd.R_form HO_0.out (by omega)
       (first|cases eo27|(injection eo27 with ea_ en_ ec_;(first|subst ea_|(injection ea_ with ea_;subst ea_));subst ec_;clear en_))
       have GB27:=qm gb27
       have GG27:=qm HG27
       clear gb27 gl27 HG27
       have HMgo27:=qm (show (P0_ go27∨w.heap.size≤go27) from (HO_0.out.1 _ rfl))
       (first|simp only [add_plain] at hx664_0|skip)
       obtain ⟨hx27_0,hf27_0⟩:=Kd.R_celln 0 HO_0.out ((ji21):Int) p27 q27
       replace p27:=eq_true p27
       replace q27:=eq_true q27
       have HP29:=Kd.R_putn HO_0.out ((ji21):Int) (Go.bits .xor .u8 (rd x0_2 (ji21)) (rd l3 (ji24)))
       rw [←Ny666.out] at HP29
       have HQ29:=qm HP29
       clear HP29
       refine start_ (n:=14) (S:=fun w' =>w'.cell? ⟨go27,((ji21)).toNat,none⟩=some (.int .u8 (rd x0_2 (ji21)))∧w'.cell? (ad665.add ((ji24)).toNat)=some (.int .u8 (rd l3 (ji24)))) (ds:=[13]) (bm 0 14) (by kernel_rfl) rfl rfl ⟨hx664_0,(Kd.foot_int (HR3.out _ (by repeat (first|exact HK.out|apply Kept.alloc|apply Kept.drewN|apply Kept.drew|refine Kept.setCell ?_ HMgo27.out _))) (ji24) (of_eq_true p665) (of_eq_true q665))⟩ (fun hHeld=>?_);refine with_tabW impl_masked.tab7 impl_masked.bits7 (fun HT_ HW_=>?_)
       generalize wr.drew=w28 at HO_0 HK HB GG27 HQ29 hf27_0 hx27_0 hx664_0 hx665_0 hHeld ⊢
       refine pu 0 37 (bm 1 14) HT_ (h:=⟨_,by intro w';go_simp;with_reducible rfl,_,by simp only [Act.put,s1,s2,s3,i64_w,i32_w];rfl,?_⟩)
       refine pu 1 38 (bm 2 14) HT_ (h:=⟨_,by intro w';go_simp;with_reducible rfl,_,by simp only [Act.put,s1,s2,s3,i64_w,i32_w];rfl,?_⟩)
       refine pu 2 39 (bm 3 14) HT_ (h:=⟨_,by intro w';go_simp;with_reducible rfl,_,by simp only [Act.put,s1,s2,s3,i64_w,i32_w];rfl,?_⟩)
       refine pu 3 40 (bm 4 14) HT_ (h:=⟨_,by intro w';go_simp;with_reducible rfl,_,by simp only [Act.put,s1,s2,s3,i64_w,i32_w];rfl,?_⟩)
       refine pu 4 41 (bm 5 14) HT_ (h:=⟨_,by intro w';go_simp;with_reducible rfl,_,by simp only [Act.put,s1,s2,s3,i64_w,i32_w];rfl,?_⟩)
       refine pu 6 43 (bb 95 14) HT_ (h:=⟨_,by intro w';go_simp;with_reducible rfl,_,by simp only [Act.put,s1,s2,s3,i64_w,i32_w];rfl,?_⟩)
       refine pu 7 44 (bb 223 14) HT_ (h:=⟨_,by intro w';go_simp;with_reducible rfl,_,by simp only [Act.put,s1,s2,s3,i64_w,i32_w];rfl,?_⟩)
       refine pu 8 45 (bb 479 14) HT_ (h:=⟨_,by intro w';go_simp;with_reducible rfl,_,by simp only [Act.put,s1,s2,s3,i64_w,i32_w];rfl,?_⟩)
       refine pu 9 46 (bb 991 14) HT_ (h:=⟨_,by intro w';go_simp;with_reducible rfl,_,by simp only [Act.put,s1,s2,s3,i64_w,i32_w];rfl,?_⟩)
       refine tk 5 42 (bm 10 14) HT_ HW_ (hS:=hHeld) (h:=⟨_,by rintro w' ⟨s0,s1⟩;go_simp;with_reducible rfl,_,by simp only [Act.put,s1,s2,s3,i64_w,i32_w];rfl,?_⟩)
       refine tk 10 47 (bm 11 14) HT_ HW_ (hS:=hHeld) (h:=⟨_,by rintro w' ⟨s0,s1⟩;go_simp;with_reducible rfl,_,by simp only [Act.put,s1,s2,s3,i64_w,i32_w];rfl,?_⟩)
       refine pu 11 48 (bm 12 14) HT_ (h:=⟨_,by intro w';go_simp;with_reducible rfl,_,by simp only [Act.put,s1,s2,s3,i64_w,i32_w];rfl,?_⟩)
       refine pu 12 49 (bm 13 14) HT_ (h:=⟨_,by intro w';go_simp;with_reducible rfl,_,by simp only [Act.put,s1,s2,s3,i64_w,i32_w];rfl,?_⟩)
       refine last_ (i:=13) (N:=none) (bm 14 14) rfl rfl (one_of HT_.out (by kernel_rfl)) (by decide) (fun K hK=>?_)
       refine skip_ (w1:=?_) (by rfl) rfl ?_ ?_
       rotate_left
       ·go_simp
        rfl
       refine hK.out _ _ ?_
       clear hK K
       refine done_ (done_of HT_.out (by kernel_rfl)) ?_
       try go_wp2
       (try simp only [←hl0_2])
       go_roundg k2
       case measure=>have:=HJ4.out;have:=HK2.out;omega
       case rel=>exact ⟨(y666),(wrap64 (x34_2+1)),(by first|rfl|(simp;done)|(simp [*];done)),H',⟨by have:=HJ4.out;have:=HK2.out;omega⟩,⟨by (try simp only [hl0_2]);(with_reducible repeat (first|apply qb|apply qc|apply qd));exact HQ29.out⟩,⟨by repeat (first|(with_reducible first|exact HK.out|apply Kept.alloc|apply Kept.drewN|apply Kept.drew|refine Kept.setCell ?_ HMgo27.out _)|exact HK.out)⟩,⟨by repeat (first|(with_reducible first|exact HB.out|apply qh|apply qi|apply qj|refine below_set ?_ GB27.out)|exact HB.out)⟩⟩
      rw [if_neg c26] at H
      exact absurd H (by simp)
     rw [if_neg c25] at H
     exact absurd H (by simp)
    rw [if_neg c23] at H
    exact absurd H (by simp)
   rw [if_neg c22] at H
   exact absurd H (by simp)
  rw [if_neg c20] at H
  have c20b0:decide (x34_2<a2)=false:=decide_eq_false c20
  clear c20
  obtain rfl:=Option.some.inj H
  go_wp2
  first|go_end0|((try simp only [Exit.inBlock,Exit.then]);refine bodyPost_ret (results_none rfl _ _ _) rfl ?_)
  exact ⟨by first|rfl|(simp <;> rfl)|(simp [*] <;> rfl),(by first|exact HO_0.out|(simp only [hl0_2];exact HO_0.out)),by repeat (first|(with_reducible first|exact HB.out|apply qh|apply qi|apply qj)|exact HB.out),by repeat (first|(with_reducible first|exact HK.out|apply Kept.alloc|apply Kept.drewN|apply Kept.drew)|exact HK.out)⟩
end Go.Proofs.Ytcdkbdkanjifeaa.SFnExactProtectPacket
