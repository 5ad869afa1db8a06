/- The walk of functions that the law FnExactProtectPacket uses, written by program. -/
import Derived.Test.YtcdkbdkanjifeaaSFnExactProtectPacketx0
import Derived.Test.YtcdkbdkanjifeaaSFnExactProtectPacketx2
import Derived.Test.YtcdkbdkanjifeaaSFnExactProtectPacketx6
import Derived.Test.YtcdkbdkanjifeaaSteps2
import Derived.Test.YtcdkbdkanjifeaaSteps3
namespace Go.Proofs.Ytcdkbdkanjifeaa.SFnExactProtectPacket
open Go.Proofs.Ytcdkbdkanjifeaa.Steps3 Go.Proofs.Ytcdkbdkanjifeaa.Steps2 Go.RowKit Go.Proofs.YtcdkbdkanjifeaaW.PrintWords Go.Proofs.YtcdkbdkanjifeaaW.PrintLast Go.Proofs.YtcdkbdkanjifeaaW.PrintMore
open Go.Proofs.YtcdkbdkanjifeaaW.PrintWords renaming below_alloc → qh, pw_below_drewN → qi, below_drew1 → qj
open Go.Proofs.YtcdkbdkanjifeaaW.PrintWords.Aside0 renaming mk → qm
attribute [local go_sem] max2_int min2_int max_two min_two max_three min_three max_four min_four 
set_option linter.unusedVariables false
set_option linter.unusedSimpArgs false
def spec_PutVar.l0:Nat→Int→List Int→Int→Int→Option (List Int×Int)
 |0,_,_,_,_=>none
 |k+1,x4,x5,x6,x7=>if x7<x4 then (spec_PutVar.l0 k x4 x5 (wrap64 (x6+1)) (wrap64 (2*x7))) else (if 0<(x5.length:Int) then (some ((x5.set (0:Int).toNat (((rd x5 0)+((wrap64 (64*x6))%256))%256)),0)) else (none))
def spec_PutVar.f (k:Nat) (a0:Int):Option (List Int×Int):=(spec_VarLen.f k a0).bind fun t363=>(if t363=0 then (some ((([]:List Int)),1)) else ((spec_l01Digits.f k a0 t363).bind fun t367=>(spec_PutVar.l0 k t363 t367 0 1)))
set_option maxHeartbeats 8000000 in
set_option maxRecDepth 100000 in
theorem spec_PutVar.calls (k:Nat) (a0:Int) (r1:List Int) (r2:Int) (w:World) (h:spec_PutVar.f k a0=some (r1,r2)) :
  Calls Try.prog 72 #[.int .i64 a0] w fun e w' =>∃ v0_:Value,e = .returned (.tuple #[v0_, .int .i64 r2])∧Kd.R (Kd.int .u8) 5 w' w.heap.size (fun _=>True) v0_ r1∧Below w.heap.size w w' :=by
 have HB:=qm (Below.refl w.heap.size w)
 have H:((spec_VarLen.f k a0).bind fun t363=>(if t363=0 then (some ((([]:List Int)),1)) else ((spec_l01Digits.f k a0 t363).bind fun t367=>(spec_PutVar.l0 k t363 t367 0 1))))=some (r1,r2):=h
 clear h
 replace H:=Option.bind_eq_some_iff.mp H
 obtain ⟨t363,A20,H⟩:=H
 try dsimp only at H
 have A2:=qm A20
 clear A20
 by_cases c3:t363=0
 ·rw [if_pos c3] at H
  have c3b0:(t363 == 0)=true:=beq_iff_eq.mpr c3
  have c3b1:(t363 != 0)=false:=bne_eq_false_iff_eq.mpr c3
  clear c3
  obtain ⟨y364,hy364⟩:∃ y_:List Int,y_=(([]:List Int)):=⟨_,rfl⟩
  replace H:(some (y364,1))=some (r1,r2):=by first|(rw [hy364];with_reducible exact H)|(have H2_:=(Option.bind_some _ _).symm.trans H;rw [hy364];with_reducible exact H2_)|(have H2_:=(Option.bind_some _ _).symm.trans H;with_reducible exact H2_)|with_reducible exact H|(rw [hy364];exact H)|exact H
  have Ny364:=qm hy364
  clear hy364
  simp only [Option.some.injEq,Prod.mk.injEq] at H
  obtain ⟨rfl,rfl⟩:=H
  go_enter Try.func72,Try.ntmps72
  go_wp2_with (first|((with_reducible refine gate_callee (f:=82) rfl ?_);refine goesL_ (some 9) rfl rfl Try.func82 (by kernel_rfl) rfl #[.int .i64 a0] rfl (by (try simp only [m1,m2,m3]);first|done|rfl) ?_;(with_reducible refine (spec_VarLen.calls k a0 t363 _ A2.out).mono ?_);rintro e w' ⟨rfl,⟨nd,rfl⟩⟩;refine ⟨_,rfl,?_⟩)|((with_reducible refine gate_dst (N:=12) rfl ?_);refine Kd.R_lit (Kd.int .u8) _ 5 ?hg (N:=12) ?hd (xs:=([]:List Int)) (inner:=[]) (ok:=fun _=>True) (okp:=fun _=>True) ?hr ?hp (fun _ hk=>hk) trivial (Below.refl _ _) (Nat.le_refl _) (by simp) ?_;(case hd=>rfl);(case hg=>rfl);(case hr=>first|(go_simp;done)|(go_simp;rfl));(case hp=>exact (Reps.none _ _));intro v365 w4 ho5 hb hg_ hnew_;clear hg_ hnew_;(first|rw [←Ny364.out] at ho5|(simp only [Int.reduceToNat] at ho5;rw [←Ny364.out] at ho5));have _:=qm (Kd.R_lower ho5 (below_size (by repeat first|exact HB.out|apply qh|apply qi|apply qj)));have _:=qm (below_step (by repeat first|exact HB.out|apply qh|apply qi|apply qj) hb);clear HB;rename_i HO366 HB;clear hb ho5))
  go_ret2
  exact ⟨_,by first|rfl|(simp [errW_none,errW_some] <;> rfl)|(simp [*,errW_none,errW_some] <;> rfl),by (with_reducible repeat (first|apply Kd.R_alloc|apply Kd.R_drewN|apply Kd.R_drew));exact HO366.out,by repeat (first|(with_reducible first|exact HB.out|apply qh|apply qi|apply qj)|exact HB.out)⟩
 rw [if_neg c3] at H
 have c3b0:(t363 == 0)=false:=beq_eq_false_iff_ne.mpr c3
 have c3b1:(t363 != 0)=true:=bne_iff_ne.mpr c3
 replace H:=Option.bind_eq_some_iff.mp H
 obtain ⟨t367,A60,H⟩:=H
 try dsimp only at H
 have A6:=qm A60
 clear A60
 have H' :=qm H
 clear H
 go_enter Try.func72,Try.ntmps72
 go_wp2_with (first|((with_reducible refine gate_callee (f:=82) rfl ?_);refine goesL_ (some 9) rfl rfl Try.func82 (by kernel_rfl) rfl #[.int .i64 a0] rfl (by (try simp only [m1,m2,m3]);first|done|rfl) ?_;(with_reducible refine (spec_VarLen.calls k a0 t363 _ A2.out).mono ?_);rintro e w' ⟨rfl,⟨nd,rfl⟩⟩;refine ⟨_,rfl,?_⟩)|((with_reducible refine gate_callee (f:=64) rfl ?_);refine goesL_ (some 15) rfl rfl Try.func64 (by kernel_rfl) rfl #[.int .i64 a0, .int .i64 t363] rfl (by (try simp only [m1,m2,m3]);first|done|rfl) ?_;(with_reducible refine (spec_l01Digits.calls k a0 t363 t367 _ A6.out).mono ?_);rintro e w7 ⟨v368,rfl,ho0,hb⟩;refine ⟨_,rfl,?_⟩;have _:=qm (Kd.R_lower ho0 (below_size (by repeat first|exact HB.out|apply qh|apply qi|apply qj)));have _:=qm (below_step (by repeat first|exact HB.out|apply qh|apply qi|apply qj) hb);clear HB;rename_i HO369 HB;(try clear hb);(try clear hb2);(try clear hk);(try clear hi);(try clear ho0)))
 go_loopg [6,7] k (fun kq v6 v7 w' =>∃ (x6_1:Int) (x7_1:Int),v6 = .int .i64 x6_1∧v7 = .int .i64 x7_1∧Aside0 (spec_PutVar.l0 kq t363 t367 x6_1 x7_1=some (r1,r2))∧Aside0 (kq≤k)∧Aside0 (Kd.R (Kd.int .u8) 5 w' w.heap.size (fun _=>True) v368 t367)∧Aside0 (Below w.heap.size w w'))
 case atStart=>exact ⟨(0),(1),(by first|rfl|(simp;done)|(simp [*];done)),(by first|rfl|(simp;done)|(simp [*];done)),H',⟨Nat.le_refl _⟩,⟨HO369.out⟩,⟨HB.out⟩⟩
 case round=>
  clear H'
  try clear c3
  try clear c3b0
  try clear c3b1
  obtain ⟨x6_1,x7_1,rfl,rfl,HA,HK1,HO_5,HB⟩:=hrel
  cases gk with
  |zero=>exact absurd HA.out (by simp [spec_PutVar.l0])
  |succ k1=>?_
  have H:=HA.out
  clear HA
  simp only [spec_PutVar.l0] at H
  by_cases c8:x7_1<t363
  ·rw [if_pos c8] at H
   have c8b0:decide (x7_1<t363)=true:=decide_eq_true c8
   clear c8
   have H' :=qm H
   clear H
   go_wp2
   go_roundg k1
   case measure=>have:=HK1.out;omega
   case rel=>exact ⟨(wrap64 (x6_1+1)),(wrap64 (2*x7_1)),rfl,rfl,H',⟨by have:=HK1.out;omega⟩,⟨HO_5.out⟩,⟨HB.out⟩⟩
  rw [if_neg c8] at H
  have c8b0:decide (x7_1<t363)=false:=decide_eq_false c8
  clear c8
  by_cases c9:0<(t367.length:Int)
  ·rw [if_pos c9] at H
   have c9b0:decide (0<(t367.length:Int))=true:=decide_eq_true c9
   have c9b1:decide (0<t367.length)=true:=decide_eq_true (by omega)
   clear c9
   obtain ⟨y371,hy371⟩:∃ y_:List Int,y_=(t367.set (0:Int).toNat (((rd t367 0)+((wrap64 (64*x6_1))%256))%256)):=⟨_,rfl⟩
   replace H:(some (y371,0))=some (r1,r2):=by first|(rw [hy371];with_reducible exact H)|(have H2_:=(Option.bind_some _ _).symm.trans H;rw [hy371];with_reducible exact H2_)|(have H2_:=(Option.bind_some _ _).symm.trans H;with_reducible exact H2_)|with_reducible exact H|(rw [hy371];exact H)|exact H
   have Ny371:=qm hy371
   clear hy371
   simp only [Option.some.injEq,Prod.mk.injEq] at H
   obtain ⟨rfl,rfl⟩:=H
   obtain ⟨Ao11,co11,eo11⟩:=Kd.R_slice HO_5.out
   subst eo11
   have p370:0≤(0:Int):=(by omega)
   have q370:0<(t367.length:Int):=of_decide_eq_true (by assumption)
   obtain ⟨ad370,e370,hx370_0⟩:=Kd.at_int (Kd.R_reads' HO_5.out).2.2 0 p370 q370
   cases e370
   have qi370:(0<t367.length)=True:=eq_true (by omega)
   (try rw [show ((0:Int)).toNat=0 from rfl] at hx370_0)
   (try rw [Addr.add_zero'] at hx370_0)
   replace p370:=eq_true p370
   replace q370:=eq_true q370
   have p10:0≤(0:Int):=(by omega)
   have q10:(0:Int)<((t367.length:Int):Int):=of_decide_eq_true (by assumption)
   have qi10:(0<t367.length)=True:=eq_true (by omega)
   obtain ⟨go10,co10,eo10,gb10,gl10,cl10,HG10⟩:=Kd.R_form HO_5.out (by omega)
   (first|cases eo10|(injection eo10 with ea_ en_ ec_;(first|subst ea_|(injection ea_ with ea_;subst ea_));subst ec_;clear en_))
   have GB10:=qm gb10
   have GG10:=qm HG10
   clear gb10 gl10 HG10
   (first|simp only [add_plain] at hx370_0|skip)
   obtain ⟨hx10_0,hf10_0⟩:=Kd.R_celln 0 HO_5.out (0:Int) p10 q10
   (try rw [show ((0:Int)).toNat=0 from rfl] at hx10_0)
   (try simp only [Nat.reduceMul,Nat.zero_mul,Nat.zero_add,Nat.reduceAdd] at hx10_0)
   (try rw [show ((0:Int)).toNat=0 from rfl] at hf10_0)
   (try simp only [Nat.reduceMul,Nat.zero_mul,Nat.zero_add,Nat.reduceAdd] at hf10_0)
   replace p10:=eq_true p10
   replace q10:=eq_true q10
   have HP12:=Kd.R_putg HO_5.out (0:Int) (((rd t367 0)+((wrap64 (64*x6_1))%256))%256)
   go_wp2_with (first|((with_reducible refine gate_store (t:=5) (p:=31) rfl ?_);refine store_event (t:=5) (p:=31) (v:=?vo_w13) (w1:=(wr.setCell ⟨go10,(0:Int).toNat,none⟩ (.int .u8 (((rd t367 0)+((wrap64 (64*x6_1))%256))%256)))) ?hg ?ho ?hn ?hr ?_;(case ho=>rfl);(case hg=>rfl);(case hn=>rfl);(case hr=>first|(go_simp;done)|(go_simp;rfl));intro w13 hw;have hg:wr.grownBy w13 (some go10):=(by rw [hw];exact HP12.2);have hp_:Kd.R (Kd.int .u8) 5 w13 w.heap.size (fun _=>True) (.slice (some ⟨go10,0,none⟩) t367.length co11) y371:=(by rw [hw,Ny371.out];exact HP12.1);clear HP12;have _:=qm (hp_);have _:=qm ((by rw [hw];exact below_set (HB.out) GB10.out:Below w.heap.size w w13));clear HO_5 HB;rename_i HO_5 HB;clear hg hw hp_))
   go_ret2
   exact ⟨_,by first|rfl|(simp <;> rfl)|(simp [*] <;> rfl),HO_5.out,HB.out⟩
  rw [if_neg c9] at H
  exact absurd H (by simp)
def spec_l01Power.l0:Nat→Int→Int→Int→Option (Int)
 |0,_,_,_=>none
 |k+1,x0,x3,x4=>if x4<x0 then (spec_l01Power.l0 k x0 (wrap64 (x3*256)) (wrap64 (x4+1))) else (some x3)
def spec_l01Power.f (k:Nat) (a0:Int):Option (Int):=spec_l01Power.l0 k a0 1 0
theorem spec_l01Power.mono_l:∀ k,(∀ y0 y1 y2,LeO (spec_l01Power.l0 k y0 y1 y2) (spec_l01Power.l0 (k+1) y0 y1 y2))
 |0=>fun _ _ _ r h=>by simp [spec_l01Power.l0] at h
 |k+1=>by
  have ih0:=spec_l01Power.mono_l k
  ·intro y0 y1 y2
   unfold spec_l01Power.l0
   repeat' first
   |(with_reducible apply ih0)
   |(with_reducible exact LeO.refl _)
   |(with_reducible exact LeO.none _)
   |(with_reducible refine LeO.ite ?_ ?_)
   |(with_reducible refine LeO.bind ?_ (fun _=>?_))
theorem spec_l01Power.mono:∀ a0 k,LeO (spec_l01Power.f k a0) (spec_l01Power.f (k+1) a0):=by
 intro a0 k
 have ih0:=spec_l01Power.mono_l k
 unfold spec_l01Power.f
 repeat' first
   |(with_reducible apply ih0)
   |(with_reducible exact LeO.refl _)
   |(with_reducible exact LeO.none _)
   |(with_reducible refine LeO.ite ?_ ?_)
   |(with_reducible refine LeO.bind ?_ (fun _=>?_))
set_option maxHeartbeats 8000000 in
set_option maxRecDepth 100000 in
theorem spec_l01Power.calls (k:Nat) (a0:Int) (r:Int) (w:World) (h:spec_l01Power.f k a0=some r) :
  Calls Try.prog 83 #[.int .i64 a0] w fun e w' =>e = .returned (.int .i64 r)∧Drawn0 w w' :=by
 have H:(spec_l01Power.l0 k a0 1 0)=some r:=h
 clear h
 have H' :=qm H
 clear H
 go_enter Try.func83,Try.ntmps83
 go_wp2
 go_loopg [3,4] k (fun kq v3 v4 w' =>∃ (x3_1:Int) (x4_1:Int),v3 = .int .i64 x3_1∧v4 = .int .i64 x4_1∧Aside0 (spec_l01Power.l0 kq a0 x3_1 x4_1=some r)∧Aside0 (kq≤k)∧Drawn0 w w')
 case atStart=>exact ⟨(1),(0),(by first|rfl|(simp;done)|(simp [*];done)),(by first|rfl|(simp;done)|(simp [*];done)),H',⟨Nat.le_refl _⟩,by repeat (first|exact Drawn0.refl _|apply Drawn0.step)⟩
 case round=>
  clear H'
  obtain ⟨x3_1,x4_1,rfl,rfl,HA,HK1,⟨m1,rfl⟩⟩:=hrel
  cases gk with
  |zero=>exact absurd HA.out (by simp [spec_l01Power.l0])
  |succ k1=>?_
  have H:=HA.out
  clear HA
  simp only [spec_l01Power.l0] at H
  by_cases c2:x4_1<a0
  ·rw [if_pos c2] at H
   have c2b0:decide (x4_1<a0)=true:=decide_eq_true c2
   clear c2
   have H' :=qm H
   clear H
   go_wp2
   go_roundg k1
   case measure=>have:=HK1.out;omega
   case rel=>exact ⟨(wrap64 (x3_1*256)),(wrap64 (x4_1+1)),rfl,rfl,H',⟨by have:=HK1.out;omega⟩,by repeat (first|exact Drawn0.refl _|apply Drawn0.step)⟩
  rw [if_neg c2] at H
  have c2b0:decide (x4_1<a0)=false:=decide_eq_false c2
  clear c2
  obtain rfl:=Option.some.inj H
  go_wp2
  go_ret
  exact ⟨by first|rfl|(simp;done)|(simp [*];done),by repeat (first|exact Drawn0.refl _|apply Drawn0.step)⟩
def spec_CutNum.f (k:Nat) (a0:Int) (a1:Int):Option (Int):=if a0<0 then (some (-1)) else (if a0>4611686018427387903 then (some (-1)) else (if a1<1 then (some (-1)) else (if a1>4 then (some (-1)) else ((spec_l01Power.f k a1).bind fun t372=>(if t372=0 then (none) else (some (Int.tmod a0 t372)))))))
set_option maxHeartbeats 8000000 in
set_option maxRecDepth 100000 in
theorem spec_CutNum.calls (k:Nat) (a0:Int) (a1:Int) (r:Int) (w:World) (h:spec_CutNum.f k a0 a1=some r) :
  Calls Try.prog 73 #[.int .i64 a0, .int .i64 a1] w fun e w' =>e = .returned (.int .i64 r)∧Drawn0 w w' :=by
 have H:(if a0<0 then (some (-1)) else (if a0>4611686018427387903 then (some (-1)) else (if a1<1 then (some (-1)) else (if a1>4 then (some (-1)) else ((spec_l01Power.f k a1).bind fun t372=>(if t372=0 then (none) else (some (Int.tmod a0 t372))))))))=some r:=h
 clear h
 by_cases c3:a0<0
 ·rw [if_pos c3] at H
  have c3b0:decide (a0<0)=true:=decide_eq_true c3
  clear c3
  obtain rfl:=Option.some.inj H
  go_enter Try.func73,Try.ntmps73
  go_wp2
  go_ret
  exact ⟨by first|rfl|(simp;done)|(simp [*];done),by repeat (first|exact Drawn0.refl _|apply Drawn0.step)⟩
 rw [if_neg c3] at H
 have c3b0:decide (a0<0)=false:=decide_eq_false c3
 clear c3
 by_cases c4:a0>4611686018427387903
 ·rw [if_pos c4] at H
  have c4b0:decide (4611686018427387903<a0)=true:=decide_eq_true c4
  clear c4
  obtain rfl:=Option.some.inj H
  go_enter Try.func73,Try.ntmps73
  go_wp2
  go_ret
  exact ⟨by first|rfl|(simp;done)|(simp [*];done),by repeat (first|exact Drawn0.refl _|apply Drawn0.step)⟩
 rw [if_neg c4] at H
 have c4b0:decide (4611686018427387903<a0)=false:=decide_eq_false c4
 clear c4
 by_cases c5:a1<1
 ·rw [if_pos c5] at H
  have c5b0:decide (a1<1)=true:=decide_eq_true c5
  clear c5
  obtain rfl:=Option.some.inj H
  go_enter Try.func73,Try.ntmps73
  go_wp2
  go_ret
  exact ⟨by first|rfl|(simp;done)|(simp [*];done),by repeat (first|exact Drawn0.refl _|apply Drawn0.step)⟩
 rw [if_neg c5] at H
 have c5b0:decide (a1<1)=false:=decide_eq_false c5
 clear c5
 by_cases c6:a1>4
 ·rw [if_pos c6] at H
  have c6b0:decide (4<a1)=true:=decide_eq_true c6
  clear c6
  obtain rfl:=Option.some.inj H
  go_enter Try.func73,Try.ntmps73
  go_wp2
  go_ret
  exact ⟨by first|rfl|(simp;done)|(simp [*];done),by repeat (first|exact Drawn0.refl _|apply Drawn0.step)⟩
 rw [if_neg c6] at H
 have c6b0:decide (4<a1)=false:=decide_eq_false c6
 clear c6
 replace H:=Option.bind_eq_some_iff.mp H
 obtain ⟨t372,A70,H⟩:=H
 try dsimp only at H
 have A7:=qm A70
 clear A70
 by_cases c8:t372=0
 ·rw [if_pos c8] at H
  exact absurd H (by simp)
 rw [if_neg c8] at H
 have c8b0:(t372 == 0)=false:=beq_eq_false_iff_ne.mpr c8
 have c8b1:(t372 != 0)=true:=bne_iff_ne.mpr c8
 obtain rfl:=Option.some.inj H
 go_enter Try.func73,Try.ntmps73
 go_wp2_with (first|((with_reducible refine gate_callee (f:=83) rfl ?_);refine goesL_ (some 21) rfl rfl Try.func83 (by kernel_rfl) rfl #[.int .i64 a1] rfl (by (try simp only [m1,m2,m3]);first|done|rfl) ?_;(with_reducible refine (spec_l01Power.calls k a1 t372 _ A7.out).mono ?_);rintro e w' ⟨rfl,⟨nd,rfl⟩⟩;refine ⟨_,rfl,?_⟩))
 go_ret
 exact ⟨by first|rfl|(simp;done)|(simp [*];done),by repeat (first|exact Drawn0.refl _|apply Drawn0.step)⟩
end Go.Proofs.Ytcdkbdkanjifeaa.SFnExactProtectPacket
