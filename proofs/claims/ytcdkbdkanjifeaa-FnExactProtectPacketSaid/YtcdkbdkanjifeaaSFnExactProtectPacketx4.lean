/- The walk of functions that the law FnExactProtectPacket uses, written by program. -/
import Derived.Test.YtcdkbdkanjifeaaSFnExactProtectPacketx0
import Derived.Test.YtcdkbdkanjifeaaSFnExactProtectPacketx2
import Derived.Test.YtcdkbdkanjifeaaSFnExactProtectPacketx3
import Derived.Test.YtcdkbdkanjifeaaSteps2
import Derived.Test.YtcdkbdkanjifeaaSteps3
namespace Go.Proofs.Ytcdkbdkanjifeaa.SFnExactProtectPacket
open Go.Proofs.Ytcdkbdkanjifeaa.Steps3 Go.Proofs.Ytcdkbdkanjifeaa.Steps2 Go.RowKit Go.Proofs.YtcdkbdkanjifeaaW.PrintWords Go.Proofs.YtcdkbdkanjifeaaW.PrintLast Go.Proofs.YtcdkbdkanjifeaaW.PrintMore
open Go.Proofs.YtcdkbdkanjifeaaW.PrintWords renaming below_size → qs, below_step → qt, blk_cell → qu
open Go.Proofs.YtcdkbdkanjifeaaW.PrintWords.Kd renaming R_alloc → qb, R_drewN → qc, R_drew → qd, R_reads' → qe, R_mono → qg
open Go.Proofs.YtcdkbdkanjifeaaW.PrintWords.Aside0 renaming mk → qm
attribute [local go_sem] max2_int min2_int max_two min_two max_three min_three max_four min_four 
set_option linter.unusedVariables false
set_option linter.unusedSimpArgs false
def spec_l03Xor.l0:Nat→List Int→List Int→List Int→Int→Option (List Int)
 |0,_,_,_,_=>none
 |k+1,x0,x1,x5,x6=>if x6<(x0.length:Int) then (if 0≤x6 then (if x6<(x1.length:Int) then (if x5.length<140737488355328 then (spec_l03Xor.l0 k x0 x1 (x5 ++ [Go.bits .xor .u8 (rd x0 x6) (rd x1 x6)]) (wrap64 (x6+1))) else (none)) else (none)) else (none)) else (some x5)
def spec_l03Xor.f (k:Nat) (l0:List Int) (l1:List Int):Option (List Int):=spec_l03Xor.l0 k l0 l1 (([]:List Int)) 0
def spec_l03Xor.T5:Bool×List (List Nat×List Nat):=(true,[([],[]),([],[]),([],[]),([1,2],[1,2]),([3],[3]),([],[]),([],[]),([5,6],[5,6]),([7],[7]),([4,8],[4,8]),([9],[9]),([0,10],[0,10]),([11,11,0,1,2,3,4,5,6,7,8,9,10,11],[0,11])])
def spec_l03Xor.B5:List Nat:=[0,0,0,6,14,0,0,96,224,510,1022,2047,4095]
theorem spec_l03Xor.tab5:rtab .any (opsOf Try.f63 5)=spec_l03Xor.T5:=by kernel_rfl
theorem spec_l03Xor.bits5:waitsOk spec_l03Xor.T5.2 spec_l03Xor.B5=true:=by kernel_rfl
set_option maxHeartbeats 8000000 in
set_option maxRecDepth 100000 in
theorem spec_l03Xor.calls (k:Nat) (A0:Option Addr) (c0:Nat) (l0:List Int) (A1:Option Addr) (c1:Nat) (l1:List Int) (r:List Int) (w:World) (hr0:Kd.C (Kd.int .u8) w A0 l0.length l0) (hc0:l0.length≤c0) (hr1:Kd.C (Kd.int .u8) w A1 l1.length l1) (hc1:l1.length≤c1) (h:spec_l03Xor.f k l0 l1=some r) :
  Calls Try.prog 63 #[.slice A0 l0.length c0, .slice A1 l1.length c1] w fun e w' =>∃ v0_:Value,e = .returned (v0_)∧Kd.R (Kd.int .u8) 5 w' w.heap.size (fun _=>True) v0_ r∧Below w.heap.size w w' :=by
 have HR0:=qm hr0
 have HC0:=qm hc0
 clear hr0 hc0
 have HR1:=qm hr1
 have HC1:=qm hc1
 clear hr1 hc1
 have HB:=qm (Below.refl w.heap.size w)
 have H:(spec_l03Xor.l0 k l0 l1 (([]:List Int)) 0)=some r:=h
 clear h
 obtain ⟨y261,hy261⟩:∃ y_:List Int,y_=(([]:List Int)):=⟨_,rfl⟩
 replace H:(spec_l03Xor.l0 k l0 l1 y261 0)=some r:=by first|(rw [hy261];with_reducible exact H)|(have H2_:=(Option.bind_some _ _).symm.trans H;rw [hy261];with_reducible exact H2_)|(have H2_:=(Option.bind_some _ _).symm.trans H;with_reducible exact H2_)|with_reducible exact H|(rw [hy261];exact H)|exact H
 have Ny261:=qm hy261
 clear hy261
 have H' :=qm H
 clear H
 go_enter Try.func63,Try.ntmps63
 go_wp2_with (first|((with_reducible refine gate_dst (N:=7) rfl ?_);refine Kd.R_lit (Kd.int .u8) _ 5 ?hg (N:=7) ?hd (xs:=([]:List Int)) (inner:=[]) (ok:=fun _=>True) (okp:=fun _=>True) ?hr ?hp (fun _ hk=>hk) trivial (Below.refl _ _) (Nat.le_refl _) (by simp) ?_;(case hd=>rfl);(case hg=>rfl);(case hr=>first|(go_simp;done)|(go_simp;rfl));(case hp=>exact (Reps.none _ _));intro v262 w3 ho4 hb hg_ hnew_;clear hg_ hnew_;(first|rw [←Ny261.out] at ho4|(simp only [Int.reduceToNat] at ho4;rw [←Ny261.out] at ho4));have _:=qm (Kd.R_lower ho4 (qs HB.out));have _:=qm (qt HB.out hb);clear HB;rename_i HO263 HB;clear hb ho4))
 go_loopg [5,6] k (fun kq v5 v6 w' =>∃ (x5_1:List Int) (x6_1:Int),v6 = .int .i64 x6_1∧Aside0 (spec_l03Xor.l0 kq l0 l1 x5_1 x6_1=some r)∧Aside0 (kq≤k)∧Aside0 (Kd.R (Kd.int .u8) 5 w' w.heap.size (fun _=>True) v5 x5_1)∧Aside0 (Below w.heap.size w w'))
 case atStart=>exact ⟨(y261),(0),(by first|rfl|(simp;done)|(simp [*];done)),H',⟨Nat.le_refl _⟩,⟨HO263.out⟩,⟨HB.out⟩⟩
 case round=>
  clear H'
  try clear c1
  obtain ⟨x5_1,x6_1,rfl,HA,HK1,HO_5,HB⟩:=hrel
  cases gk with
  |zero=>exact absurd HA.out (by simp [spec_l03Xor.l0])
  |succ k1=>?_
  have H:=HA.out
  clear HA
  simp only [spec_l03Xor.l0] at H
  by_cases c5:x6_1<(l0.length:Int)
  ·rw [if_pos c5] at H
   have c5b0:decide (x6_1<(l0.length:Int))=true:=decide_eq_true c5
   clear c5
   by_cases c6:0≤x6_1
   ·rw [if_pos c6] at H
    have c6b0:decide (0≤x6_1)=true:=decide_eq_true c6
    clear c6
    by_cases c7:x6_1<(l1.length:Int)
    ·rw [if_pos c7] at H
     have c7b0:decide (x6_1<(l1.length:Int))=true:=decide_eq_true c7
     clear c7
     by_cases c8:x5_1.length<140737488355328
     ·rw [if_pos c8] at H
      have LMc8:=qm c8
      clear c8
      obtain ⟨y266,hy266⟩:∃ y_:List Int,y_=(x5_1 ++ [Go.bits .xor .u8 (rd l0 x6_1) (rd l1 x6_1)]):=⟨_,rfl⟩
      replace H:(spec_l03Xor.l0 k1 l0 l1 y266 (wrap64 (x6_1+1)))=some r:=by first|(rw [hy266];with_reducible exact H)|(have H2_:=(Option.bind_some _ _).symm.trans H;rw [hy266];with_reducible exact H2_)|(have H2_:=(Option.bind_some _ _).symm.trans H;with_reducible exact H2_)|with_reducible exact H|(rw [hy266];exact H)|exact H
      have Ny266:=qm hy266
      clear hy266
      have H' :=qm H
      clear H
      try go_wp2
      have _:=qm (qd HO_5.out)
      have _:=qm (below_drew1 HB.out)
      clear HO_5 HB
      rename_i HO_5 HB
      have p264:0≤(x6_1:Int):=of_decide_eq_true (by assumption)
      have q264:x6_1<(l0.length:Int):=of_decide_eq_true (by assumption)
      obtain ⟨ad264,e264,hx264_0⟩:=Kd.at_int HR0.out x6_1 p264 q264
      have hw264_0:=hx264_0
      cases e264
      replace hx264_0:=(HB.out.cell (World.block_lt_of_cell? w _ hx264_0)).trans hx264_0
      replace p264:=eq_true p264
      replace q264:=eq_true q264
      have p265:0≤(x6_1:Int):=of_decide_eq_true (by assumption)
      have q265:x6_1<(l1.length:Int):=of_decide_eq_true (by assumption)
      obtain ⟨ad265,e265,hx265_0⟩:=Kd.at_int HR1.out x6_1 p265 q265
      have hw265_0:=hx265_0
      cases e265
      replace hx265_0:=(HB.out.cell (World.block_lt_of_cell? w _ hx265_0)).trans hx265_0
      replace p265:=eq_true p265
      replace q265:=eq_true q265
      refine start_ (n:=13) (S:=fun w' =>w'.cell? (ad264.add (x6_1).toNat)=some (.int .u8 (rd l0 x6_1))∧w'.cell? (ad265.add (x6_1).toNat)=some (.int .u8 (rd l1 x6_1))) (ds:=[]) (bm 0 13) (by kernel_rfl) rfl rfl ⟨((HB.out.cell (World.block_lt_of_cell? w _ hw264_0)).trans hw264_0),((HB.out.cell (World.block_lt_of_cell? w _ hw265_0)).trans hw265_0)⟩ (fun hHeld=>?_);refine with_tabW spec_l03Xor.tab5 spec_l03Xor.bits5 (fun HT_ HW_=>?_)
      generalize wr.drew=w9 at HO_5 HB hx264_0 hx265_0 hHeld ⊢
      refine pu 0 14 (bm 1 13) HT_ (h:=⟨_,by intro w';go_simp;with_reducible rfl,_,by simp only [Act.put,s1,s2,s3,i64_w,i32_w];rfl,?_⟩)
      refine pu 1 15 (bm 2 13) HT_ (h:=⟨_,by intro w';go_simp;with_reducible rfl,_,by simp only [Act.put,s1,s2,s3,i64_w,i32_w];rfl,?_⟩)
      refine pu 2 16 (bm 3 13) HT_ (h:=⟨_,by intro w';go_simp;with_reducible rfl,_,by simp only [Act.put,s1,s2,s3,i64_w,i32_w];rfl,?_⟩)
      refine pu 3 17 (bm 4 13) HT_ (h:=⟨_,by intro w';go_simp;with_reducible rfl,_,by simp only [Act.put,s1,s2,s3,i64_w,i32_w];rfl,?_⟩)
      refine pu 5 19 (bb 47 13) HT_ (h:=⟨_,by intro w';go_simp;with_reducible rfl,_,by simp only [Act.put,s1,s2,s3,i64_w,i32_w];rfl,?_⟩)
      refine pu 6 20 (bb 111 13) HT_ (h:=⟨_,by intro w';go_simp;with_reducible rfl,_,by simp only [Act.put,s1,s2,s3,i64_w,i32_w];rfl,?_⟩)
      refine pu 7 21 (bb 239 13) HT_ (h:=⟨_,by intro w';go_simp;with_reducible rfl,_,by simp only [Act.put,s1,s2,s3,i64_w,i32_w];rfl,?_⟩)
      refine tk 4 18 (bm 8 13) HT_ HW_ (hS:=hHeld) (h:=⟨_,by rintro w' ⟨s0,s1⟩;go_simp;with_reducible rfl,_,by simp only [Act.put,s1,s2,s3,i64_w,i32_w];rfl,?_⟩)
      refine tk 8 22 (bm 9 13) HT_ HW_ (hS:=hHeld) (h:=⟨_,by rintro w' ⟨s0,s1⟩;go_simp;with_reducible rfl,_,by simp only [Act.put,s1,s2,s3,i64_w,i32_w];rfl,?_⟩)
      refine pu 9 23 (bm 10 13) HT_ (h:=⟨_,by intro w';go_simp;with_reducible rfl,_,by simp only [Act.put,s1,s2,s3,i64_w,i32_w];rfl,?_⟩)
      refine one_ (i:=10) (N:=some 24) (bm 11 13) rfl rfl (one_of HT_.out (by kernel_rfl)) (by decide) (fun K hK=>?_)
      refine value_ (w1:=?_) (v:=?_) (by rfl) rfl ?_ ?_
      rotate_left 2
      ·go_simp
       constructor
       ·rfl
       ·rfl
      refine hK.out _ _ ⟨(World.cell?_alloc_lt _ _ _ (World.block_lt_of_cell? _ _ (((HB.out.cell (World.block_lt_of_cell? w _ hw264_0)).trans hw264_0)))).trans (((HB.out.cell (World.block_lt_of_cell? w _ hw264_0)).trans hw264_0)),(World.cell?_alloc_lt _ _ _ (World.block_lt_of_cell? _ _ (((HB.out.cell (World.block_lt_of_cell? w _ hw265_0)).trans hw265_0)))).trans (((HB.out.cell (World.block_lt_of_cell? w _ hw265_0)).trans hw265_0))⟩ (fun hHeld=>?_)
      clear hK K
      refine norm_ (a' :=?_) ?_ ?_
      rotate_left
      ·show Act.put _ (some 24) _=_
       simp only [Act.put,s1,s2,s3,i64_w,i32_w]
       rfl
      refine one_ (i:=11) (N:=some 25) (bm 12 13) rfl rfl (one_of HT_.out (by kernel_rfl)) (by decide) (fun K hK=>?_)
      refine Kd.R_append_step (Kd.int .u8) (w0:=w) w.heap.size (by rfl) (.tmp 14) (.tmp 24) 22 5 (.int .u8 0) 1 rfl Try.underlying22 info5 rfl (by decide) (by omega) u5 x5_1 (Go.bits .xor .u8 (rd l0 x6_1) (rd l1 x6_1)) [.int .u8 (Go.bits .xor .u8 (rd l0 x6_1) (rd l1 x6_1))] (fun _=>True) (fun _=>False) rfl rfl ?aP (fun _ hk=>hk.elim) ?aF ?aO ?aB ?aS ?aL ?_
      (case aP=>exact rfl)
      (case aB=>exact HB.out)
      (case aF=>exact (fun _ _=>trivial))
      (case aO=>exact HO_5.out)
      (case aS=>exact (qs HB.out))
      (case aL=>have:=LMc8.out;omega)
      intro v267 w10 ho hb hg hat
      rw [←Ny266.out] at ho
      have _:=qm (hb)
      have _:=qm (ho)
      clear HB HO_5
      rename_i HB HO268
      clear ho hb hg hat
      refine hK.out _ _ ⟨((HB.out.cell (World.block_lt_of_cell? w _ hw264_0)).trans hw264_0),((HB.out.cell (World.block_lt_of_cell? w _ hw265_0)).trans hw265_0)⟩ (fun hHeld=>?_)
      clear hK K
      refine norm_ (a' :=?_) ?_ ?_
      rotate_left
      ·show Act.put _ (some 25) _=_
       simp only [Act.put,s1,s2,s3,i64_w,i32_w]
       rfl
      refine pu 12 5 (bm 13 13) HT_ (h:=⟨_,by intro w';go_simp;with_reducible rfl,_,by simp only [Act.put,s1,s2,s3,i64_w,i32_w];rfl,?_⟩)
      refine done_ (done_of HT_.out (by kernel_rfl)) ?_
      try go_wp2
      go_roundg k1
      case measure=>have:=HK1.out;omega
      case rel=>exact ⟨(y266),(wrap64 (x6_1+1)),rfl,H',⟨by have:=HK1.out;omega⟩,⟨HO268.out⟩,⟨HB.out⟩⟩
     rw [if_neg c8] at H
     exact absurd H (by simp)
    rw [if_neg c7] at H
    exact absurd H (by simp)
   rw [if_neg c6] at H
   exact absurd H (by simp)
  rw [if_neg c5] at H
  have c5b0:decide (x6_1<(l0.length:Int))=false:=decide_eq_false c5
  clear c5
  obtain rfl:=Option.some.inj H
  go_wp2
  go_ret
  exact ⟨_,by first|rfl|(simp <;> rfl)|(simp [*] <;> rfl),HO_5.out,HB.out⟩
def spec_l03Cat.f (l0:List Int) (l1:List Int):Option (List Int):=(some (([]:List Int):List Int)).bind fun y269=>(if y269.length+l0.length<140737488355328 then ((some (y269 ++ l0:List Int)).bind fun y272=>(if y272.length+l1.length<140737488355328 then (some (y272 ++ l1)) else (none))) else (none))
set_option maxHeartbeats 8000000 in
set_option maxRecDepth 100000 in
theorem spec_l03Cat.calls (A0:Option Addr) (c0:Nat) (l0:List Int) (A1:Option Addr) (c1:Nat) (l1:List Int) (r:List Int) (w:World) (hr0:Kd.C (Kd.int .u8) w A0 l0.length l0) (hc0:l0.length≤c0) (hr1:Kd.C (Kd.int .u8) w A1 l1.length l1) (hc1:l1.length≤c1) (h:spec_l03Cat.f l0 l1=some r) :
  Calls Try.prog 81 #[.slice A0 l0.length c0, .slice A1 l1.length c1] w fun e w' =>∃ v0_:Value,e = .returned (v0_)∧Kd.R (Kd.int .u8) 5 w' w.heap.size (fun _=>True) v0_ r∧Below w.heap.size w w' :=by
 have HR0:=qm hr0
 have HC0:=qm hc0
 clear hr0 hc0
 have HR1:=qm hr1
 have HC1:=qm hc1
 clear hr1 hc1
 have HB:=qm (Below.refl w.heap.size w)
 have H:((some (([]:List Int):List Int)).bind fun y269=>(if y269.length+l0.length<140737488355328 then ((some (y269 ++ l0:List Int)).bind fun y272=>(if y272.length+l1.length<140737488355328 then (some (y272 ++ l1)) else (none))) else (none)))=some r:=h
 clear h
 obtain ⟨y269,hy269⟩:∃ y_:List Int,y_=(([]:List Int)):=⟨_,rfl⟩
 replace H:(if y269.length+l0.length<140737488355328 then ((some (y269 ++ l0:List Int)).bind fun y272=>(if y272.length+l1.length<140737488355328 then (some (y272 ++ l1)) else (none))) else (none))=some r:=by first|(rw [hy269];with_reducible exact H)|(have H2_:=(Option.bind_some _ _).symm.trans H;rw [hy269];with_reducible exact H2_)|(have H2_:=(Option.bind_some _ _).symm.trans H;with_reducible exact H2_)|with_reducible exact H|(rw [hy269];exact H)|exact H
 have Ny269:=qm hy269
 clear hy269
 by_cases c3:y269.length+l0.length<140737488355328
 ·rw [if_pos c3] at H
  have LMc3:=qm c3
  clear c3
  obtain ⟨y272,hy272⟩:∃ y_:List Int,y_=(y269 ++ l0):=⟨_,rfl⟩
  replace H:(if y272.length+l1.length<140737488355328 then (some (y272 ++ l1)) else (none))=some r:=by first|(rw [hy272];with_reducible exact H)|(have H2_:=(Option.bind_some _ _).symm.trans H;rw [hy272];with_reducible exact H2_)|(have H2_:=(Option.bind_some _ _).symm.trans H;with_reducible exact H2_)|with_reducible exact H|(rw [hy272];exact H)|exact H
  have Ny272:=qm hy272
  clear hy272
  by_cases c4:y272.length+l1.length<140737488355328
  ·rw [if_pos c4] at H
   have LMc4:=qm c4
   clear c4
   obtain ⟨y275,hy275⟩:∃ y_:List Int,y_=(y272 ++ l1):=⟨_,rfl⟩
   replace H:(some y275)=some r:=by first|(rw [hy275];with_reducible exact H)|(have H2_:=(Option.bind_some _ _).symm.trans H;rw [hy275];with_reducible exact H2_)|(have H2_:=(Option.bind_some _ _).symm.trans H;with_reducible exact H2_)|with_reducible exact H|(rw [hy275];exact H)|exact H
   have Ny275:=qm hy275
   clear hy275
   obtain rfl:=Option.some.inj H
   go_enter Try.func81,Try.ntmps81
   go_wp2_with (first|((with_reducible refine gate_dst (N:=5) rfl ?_);refine Kd.R_lit (Kd.int .u8) _ 5 ?hg (N:=5) ?hd (xs:=([]:List Int)) (inner:=[]) (ok:=fun _=>True) (okp:=fun _=>True) ?hr ?hp (fun _ hk=>hk) trivial (Below.refl _ _) (Nat.le_refl _) (by simp) ?_;(case hd=>rfl);(case hg=>rfl);(case hr=>first|(go_simp;done)|(go_simp;rfl));(case hp=>exact (Reps.none _ _));intro v270 w5 ho6 hb hg_ hnew_;clear hg_ hnew_;(first|rw [←Ny269.out] at ho6|(simp only [Int.reduceToNat] at ho6;rw [←Ny269.out] at ho6));have _:=qm (Kd.R_lower ho6 (qs HB.out));have _:=qm (qt HB.out hb);clear HB;rename_i HO271 HB;clear hb ho6)|((with_reducible refine gate_builtin (b:= .append) (xs:=#[.tmp 5, .tmp 6]) rfl ?_);at_builtin;refine Kd.R_append_rows (Kd.int .u8) (w0:=w) w.heap.size rfl (.tmp 5) (.tmp 6) 22 5 (.int .u8 0) 1 rfl Try.underlying22 info5 rfl (by decide) (by omega) v270 y269 l0 _ _ _ (fun _=>True) (fun _=>False) rfl rfl ?aO ?aR (fun _ _ h=>h) (fun _ h=>h.elim) ?aF ?aB ?aS ?aL ?_;(case aR=>exact cb (Kd.C_below HR0.out HB.out));(case aB=>exact HB.out);(case aF=>exact (fun _ _=>trivial));(case aO=>exact HO271.out);(case aS=>exact (qs HB.out));(case aL=>have:=LMc3.out;omega);intro v273 w7 ho hb hg hat;rw [←Ny272.out] at ho;have _:=qm (hb);have _:=qm (ho);clear HB HO271;rename_i HB HO274;clear ho hb hg hat)|((with_reducible refine gate_builtin (b:= .append) (xs:=#[.tmp 7, .tmp 8]) rfl ?_);at_builtin;refine Kd.R_append_rows (Kd.int .u8) (w0:=w) w.heap.size rfl (.tmp 7) (.tmp 8) 22 5 (.int .u8 0) 1 rfl Try.underlying22 info5 rfl (by decide) (by omega) v273 y272 l1 _ _ _ (fun _=>True) (fun _=>False) rfl rfl ?aO ?aR (fun _ _ h=>h) (fun _ h=>h.elim) ?aF ?aB ?aS ?aL ?_;(case aR=>exact cb (Kd.C_below HR1.out HB.out));(case aB=>exact HB.out);(case aF=>exact (fun _ _=>trivial));(case aO=>exact HO274.out);(case aS=>exact (qs HB.out));(case aL=>have:=LMc4.out;omega);intro v276 w8 ho hb hg hat;rw [←Ny275.out] at ho;have _:=qm (hb);have _:=qm (ho);clear HB HO274;rename_i HB HO277;clear ho hb hg hat))
   go_ret
   exact ⟨_,by first|rfl|(simp <;> rfl)|(simp [*] <;> rfl),HO277.out,HB.out⟩
  rw [if_neg c4] at H
  exact absurd H (by simp)
 rw [if_neg c3] at H
 exact absurd H (by simp)
def spec_l03Stream.l0:Nat→List Int→Int→List Int→Int→List Int→List Int→List Int→List Int→Option (List Int)
 |0,_,_,_,_,_,_,_,_=>none
 |k+1,x1,x2,x7,x8,x279000,x279001,x279002,x279003=>if (x7.length:Int)<x2 then ((spec_l01Digits.f k x8 4).bind fun t282=>((spec_l03Cat.f x1 t282).bind fun t285=>((spec_l03Digest.f k x279001 t285).bind fun t288=>(if x7.length+t288.length<140737488355328 then (spec_l03Stream.l0 k x1 x2 (x7 ++ t288) (wrap64 (x8+1)) x279000 x279001 x279002 x279003) else (none))))) else (some x7)
def spec_l03Stream.f (k:Nat) (l0_0:List Int) (l0_1:List Int) (l0_2:List Int) (l0_3:List Int) (l1:List Int) (a2:Int):Option (List Int):=spec_l03Stream.l0 k l1 a2 (([]:List Int)) 0 l0_0 l0_1 l0_2 l0_3
def spec_l03Stream.T5:Bool×List (List Nat×List Nat):=(true,[([],[]),([],[]),([1],[1]),([],[]),([],[]),([4],[4]),([3,5,5],[3,5]),([2,6,6],[2,6]),([0,7,7],[0,7]),([8,8,0,1,2,3,4,5,6,7,8],[0,8])])
def spec_l03Stream.B5:List Nat:=[0,0,2,0,0,16,56,126,255,511]
theorem spec_l03Stream.tab5:rtab .any (opsOf Try.f65 5)=spec_l03Stream.T5:=by kernel_rfl
theorem spec_l03Stream.bits5:waitsOk spec_l03Stream.T5.2 spec_l03Stream.B5=true:=by kernel_rfl
set_option maxHeartbeats 8000000 in
set_option maxRecDepth 100000 in
theorem spec_l03Stream.calls (k:Nat) (A0_0:Option Addr) (c0_0:Nat) (l0_0:List Int) (A0_1:Option Addr) (c0_1:Nat) (l0_1:List Int) (A0_2:Option Addr) (c0_2:Nat) (l0_2:List Int) (A0_3:Option Addr) (c0_3:Nat) (l0_3:List Int) (A1:Option Addr) (c1:Nat) (l1:List Int) (a2:Int) (r:List Int) (w:World) (hr0_0:Kd.C (Kd.int .u8) w A0_0 l0_0.length l0_0) (hc0_0:l0_0.length≤c0_0) (hr0_1:Kd.C (Kd.int .u8) w A0_1 l0_1.length l0_1) (hc0_1:l0_1.length≤c0_1) (hr0_2:Kd.C (Kd.int .u8) w A0_2 l0_2.length l0_2) (hc0_2:l0_2.length≤c0_2) (hr0_3:Kd.C (Kd.int .u8) w A0_3 l0_3.length l0_3) (hc0_3:l0_3.length≤c0_3) (hr1:Kd.C (Kd.int .u8) w A1 l1.length l1) (hc1:l1.length≤c1) (h:spec_l03Stream.f k l0_0 l0_1 l0_2 l0_3 l1 a2=some r) :
  Calls Try.prog 65 #[.agg #[.slice A0_0 l0_0.length c0_0, .slice A0_1 l0_1.length c0_1, .slice A0_2 l0_2.length c0_2, .slice A0_3 l0_3.length c0_3], .slice A1 l1.length c1, .int .i64 a2] w fun e w' =>∃ v0_:Value,e = .returned (v0_)∧Kd.R (Kd.int .u8) 5 w' w.heap.size (fun _=>True) v0_ r∧Below w.heap.size w w' :=by
 have hu33:=Try.underlying33
 have HR0_0:=qm hr0_0
 have HC0_0:=qm hc0_0
 clear hr0_0 hc0_0
 have HR0_1:=qm hr0_1
 have HC0_1:=qm hc0_1
 clear hr0_1 hc0_1
 have HR0_2:=qm hr0_2
 have HC0_2:=qm hc0_2
 clear hr0_2 hc0_2
 have HR0_3:=qm hr0_3
 have HC0_3:=qm hc0_3
 clear hr0_3 hc0_3
 have HR1:=qm hr1
 have HC1:=qm hc1
 clear hr1 hc1
 have HB:=qm (Below.refl w.heap.size w)
 have H:(spec_l03Stream.l0 k l1 a2 (([]:List Int)) 0 l0_0 l0_1 l0_2 l0_3)=some r:=h
 clear h
 obtain ⟨y279,hy279⟩:∃ y_:List Int,y_=(([]:List Int)):=⟨_,rfl⟩
 replace H:(spec_l03Stream.l0 k l1 a2 y279 0 l0_0 l0_1 l0_2 l0_3)=some r:=by first|(rw [hy279];with_reducible exact H)|(have H2_:=(Option.bind_some _ _).symm.trans H;rw [hy279];with_reducible exact H2_)|(have H2_:=(Option.bind_some _ _).symm.trans H;with_reducible exact H2_)|with_reducible exact H|(rw [hy279];exact H)|exact H
 have Ny279:=qm hy279
 clear hy279
 have H' :=qm H
 clear H
 go_enter Try.func65,Try.ntmps65
 go_wp2_with (first|((with_reducible refine gate_dst (N:=3) rfl ?_);refine box_event (by rfl) (N:=3) (by rfl) (cs:=#[.slice A0_0 l0_0.length c0_0, .slice A0_1 l0_1.length c0_1, .slice A0_2 l0_2.length c0_2, .slice A0_3 l0_3.length c0_3]) (t:=33) (by first|(go_simp;done)|(go_simp;rfl)) ?_;intro gb278 hg w4 hbox hb;have _:=qm (qt HB.out hb);have _:=qm (hbox);have _:=qm ((gs hg (qs HB.out)));have _:=qm ((gs hg (qs HB.out)));clear HB;rename_i HB BK278 GW278 GE278;clear hb hbox hg)|((with_reducible refine gate_dst (N:=9) rfl ?_);refine Kd.R_lit (Kd.int .u8) _ 5 ?hg (N:=9) ?hd (xs:=([]:List Int)) (inner:=[]) (ok:=fun _=>True) (okp:=fun _=>True) ?hr ?hp (fun _ hk=>hk) trivial (Below.refl _ _) (Nat.le_refl _) (by simp) ?_;(case hd=>rfl);(case hg=>rfl);(case hr=>first|(go_simp;done)|(go_simp;rfl));(case hp=>exact (Reps.none _ _));intro v280 w5 ho6 hb hg_ hnew_;clear hg_ hnew_;(first|rw [←Ny279.out] at ho6|(simp only [Int.reduceToNat] at ho6;rw [←Ny279.out] at ho6));have _:=qm (Kd.R_lower ho6 (qs HB.out));have _:=qm (blk_below (g:=gb278) BK278.out hb);have _:=qm (qt HB.out hb);clear BK278 HB;rename_i HO281 BK278 HB;clear hb ho6))
 go_loopg [7,8] k (fun kq v7 v8 w' =>∃ (x7_1:List Int) (x8_1:Int),v8 = .int .i64 x8_1∧Aside0 (spec_l03Stream.l0 kq l1 a2 x7_1 x8_1 l0_0 l0_1 l0_2 l0_3=some r)∧Aside0 (kq≤k)∧Aside0 (Kd.R (Kd.int .u8) 5 w' w.heap.size (fun _=>True) v7 x7_1)∧Aside0 (w'.heap[gb278]? =some (.cells #[(.slice A0_0 l0_0.length c0_0),(.slice A0_1 l0_1.length c0_1),(.slice A0_2 l0_2.length c0_2),(.slice A0_3 l0_3.length c0_3)] 33 (0,0)))∧Aside0 (Below w.heap.size w w'))
 case atStart=>exact ⟨(y279),(0),(by first|rfl|(simp;done)|(simp [*];done)),H',⟨Nat.le_refl _⟩,⟨HO281.out⟩,⟨BK278.out⟩,⟨HB.out⟩⟩
 case round=>
  clear H'
  try clear c1
  obtain ⟨x7_1,x8_1,rfl,HA,HK1,HO_7,BK278,HB⟩:=hrel
  cases gk with
  |zero=>exact absurd HA.out (by simp [spec_l03Stream.l0])
  |succ k1=>?_
  have H:=HA.out
  clear HA
  simp only [spec_l03Stream.l0] at H
  by_cases c7:(x7_1.length:Int)<a2
  ·rw [if_pos c7] at H
   have c7b0:decide ((x7_1.length:Int)<a2)=true:=decide_eq_true c7
   clear c7
   replace H:=Option.bind_eq_some_iff.mp H
   obtain ⟨t282,A80,H⟩:=H
   try dsimp only at H
   have A8:=qm A80
   clear A80
   replace H:=Option.bind_eq_some_iff.mp H
   obtain ⟨t285,A90,H⟩:=H
   try dsimp only at H
   have A9:=qm A90
   clear A90
   replace H:=Option.bind_eq_some_iff.mp H
   obtain ⟨t288,A100,H⟩:=H
   try dsimp only at H
   have A10:=qm A100
   clear A100
   by_cases c11:x7_1.length+t288.length<140737488355328
   ·rw [if_pos c11] at H
    have LMc11:=qm c11
    clear c11
    obtain ⟨y291,hy291⟩:∃ y_:List Int,y_=(x7_1 ++ t288):=⟨_,rfl⟩
    replace H:(spec_l03Stream.l0 k1 l1 a2 y291 (wrap64 (x8_1+1)) l0_0 l0_1 l0_2 l0_3)=some r:=by first|(rw [hy291];with_reducible exact H)|(have H2_:=(Option.bind_some _ _).symm.trans H;rw [hy291];with_reducible exact H2_)|(have H2_:=(Option.bind_some _ _).symm.trans H;with_reducible exact H2_)|with_reducible exact H|(rw [hy291];exact H)|exact H
    have Ny291:=qm hy291
    clear hy291
    have H' :=qm H
    clear H
    obtain ⟨Ao12,co12,eo12⟩:=Kd.R_slice HO_7.out
    subst eo12
    try go_wp2
    have _:=qm (qd HO_7.out)
    have _:=qm (blk_drew BK278.out)
    have _:=qm (below_drew1 HB.out)
    clear HO_7 BK278 HB
    rename_i HO_7 BK278 HB
    refine start_ (n:=10) (S:=fun w' =>w'.cell? ⟨gb278,0,none⟩=some (.slice A0_0 l0_0.length c0_0)∧w'.cell? ⟨gb278,1,none⟩=some (.slice A0_1 l0_1.length c0_1)∧w'.cell? ⟨gb278,2,none⟩=some (.slice A0_2 l0_2.length c0_2)∧w'.cell? ⟨gb278,3,none⟩=some (.slice A0_3 l0_3.length c0_3)) (ds:=[]) (bm 0 10) (by kernel_rfl) rfl rfl ⟨(qu BK278.out 0).trans rfl,(qu BK278.out 1).trans rfl,(qu BK278.out 2).trans rfl,(qu BK278.out 3).trans rfl⟩ (fun hHeld=>?_);refine with_tabW spec_l03Stream.tab5 spec_l03Stream.bits5 (fun HT_ HW_=>?_)
    generalize wr.drew=w13 at HO_7 BK278 HB hHeld ⊢
    refine pu 0 16 (bm 1 10) HT_ (h:=⟨_,by intro w';go_simp;with_reducible rfl,_,by simp only [Act.put,s1,s2,s3,i64_w,i32_w];rfl,?_⟩)
    refine pu 1 17 (bm 2 10) HT_ (h:=⟨_,by intro w';go_simp;with_reducible rfl,_,by simp only [Act.put,s1,s2,s3,i64_w,i32_w];rfl,?_⟩)
    refine pu 3 19 (bb 11 10) HT_ (h:=⟨_,by intro w';go_simp;with_reducible rfl,_,by simp only [Act.put,s1,s2,s3,i64_w,i32_w];rfl,?_⟩)
    refine pu 4 20 (bb 27 10) HT_ (h:=⟨_,by intro w';go_simp;with_reducible rfl,_,by simp only [Act.put,s1,s2,s3,i64_w,i32_w];rfl,?_⟩)
    refine tk 2 18 (bm 5 10) HT_ HW_ (hS:=hHeld) (h:=⟨_,by rintro w' ⟨s0,s1,s2,s3⟩;go_simp;with_reducible rfl,_,by simp only [Act.put,s1,s2,s3,i64_w,i32_w];rfl,?_⟩)
    refine one_ (i:=5) (N:=some 21) (bm 6 10) rfl rfl (one_of HT_.out (by kernel_rfl)) (by decide) (fun K hK=>?_)
    refine goes_ Try.func64 (by kernel_rfl) rfl #[.int .i64 x8_1, .int .i64 4] (by rfl) rfl rfl (by (try simp only [m1,m2,m3]);first|done|rfl) ?_
    with_reducible refine (spec_l01Digits.calls k1 x8_1 4 t282 _ A8.out).mono ?_
    rintro e w14 ⟨v283,rfl,ho0,hb⟩
    refine ⟨_,rfl,?_⟩
    have _:=qm (Kd.R_elder' HO_7.out (Kd.R_base ho0) hb)
    have _:=qm (Kd.R_lower (nw ho0 HO_7.out) (qs HB.out))
    have _:=qm (blk_below (g:=gb278) BK278.out hb)
    have _:=qm (qt HB.out hb)
    clear HO_7 BK278 HB
    rename_i HO_7 HO284 BK278 HB
    (try clear hb)
    (try clear hb2)
    (try clear hk)
    (try clear hi)
    (try clear ho0)
    obtain ⟨Ao15,co15,eo15⟩:=Kd.R_slice HO284.out
    (first|subst eo15|(injection eo15 with f1_ f2_ f3_;have f4_:=f1_.symm;have f5_:=f3_.symm;clear f1_ f2_ f3_;subst f4_;subst f5_))
    refine hK.out _ _ ⟨(qu BK278.out 0).trans rfl,(qu BK278.out 1).trans rfl,(qu BK278.out 2).trans rfl,(qu BK278.out 3).trans rfl⟩ (fun hHeld=>?_)
    clear hK K
    refine norm_ (a' :=?_) ?_ ?_
    rotate_left
    ·show Act.put _ (some 21) _=_
     simp only [Act.put,s1,s2,s3,i64_w,i32_w]
     rfl
    refine one_ (i:=6) (N:=some 22) (bm 7 10) rfl rfl (one_of HT_.out (by kernel_rfl)) (by decide) (fun K hK=>?_)
    refine goes_ Try.func81 (by kernel_rfl) rfl #[.slice A1 l1.length c1, .slice Ao15 t282.length co15] (by rfl) rfl rfl (by (try simp only [m1,m2,m3]);first|done|rfl) ?_
    with_reducible refine (spec_l03Cat.calls _ _ l1 _ _ t282 t285 _ ?side1 ?side2 ?side3 ?side4 A9.out).mono ?_
    (case side1=>exact cb (Kd.C_below HR1.out HB.out))
    (case side2=>exact HC1.out)
    (case side3=>exact cb ((qe HO284.out).2.2))
    (case side4=>exact (qe HO284.out).2.1)
    rintro e w16 ⟨v286,rfl,ho0,hb⟩
    refine ⟨_,rfl,?_⟩
    have _:=qm (Kd.R_elder' HO_7.out (Kd.R_base ho0) hb)
    have _:=qm (Kd.R_elder' HO284.out (Kd.R_base ho0) hb)
    have _:=qm (Kd.R_lower (nw (nw ho0 HO_7.out) HO284.out) (qs HB.out))
    have _:=qm (blk_below (g:=gb278) BK278.out hb)
    have _:=qm (qt HB.out hb)
    clear HO_7 HO284 BK278 HB
    rename_i HO_7 HO284 HO287 BK278 HB
    (try clear hb)
    (try clear hb2)
    (try clear hk)
    (try clear hi)
    (try clear ho0)
    obtain ⟨Ao17,co17,eo17⟩:=Kd.R_slice HO287.out
    (first|subst eo17|(injection eo17 with f1_ f2_ f3_;have f4_:=f1_.symm;have f5_:=f3_.symm;clear f1_ f2_ f3_;subst f4_;subst f5_))
    refine hK.out _ _ ⟨(qu BK278.out 0).trans rfl,(qu BK278.out 1).trans rfl,(qu BK278.out 2).trans rfl,(qu BK278.out 3).trans rfl⟩ (fun hHeld=>?_)
    clear hK K
    refine norm_ (a' :=?_) ?_ ?_
    rotate_left
    ·show Act.put _ (some 22) _=_
     simp only [Act.put,s1,s2,s3,i64_w,i32_w]
     rfl
    refine one_ (i:=7) (N:=some 23) (bm 8 10) rfl rfl (one_of HT_.out (by kernel_rfl)) (by decide) (fun K hK=>?_)
    refine goes_ Try.func49 (by kernel_rfl) rfl #[.slice A0_1 l0_1.length c0_1, .slice Ao17 t285.length co17] (by rfl) rfl rfl (by (try simp only [m1,m2,m3]);first|done|rfl) ?_
    with_reducible refine (spec_l03Digest.calls k1 _ _ l0_1 _ _ t285 t288 _ ?side1 ?side2 ?side3 ?side4 A10.out).mono ?_
    (case side1=>exact cb (Kd.C_below HR0_1.out HB.out))
    (case side2=>exact HC0_1.out)
    (case side3=>exact cb ((qe HO287.out).2.2))
    (case side4=>exact (qe HO287.out).2.1)
    rintro e w18 ⟨v289,rfl,ho0,hb⟩
    refine ⟨_,rfl,?_⟩
    have _:=qm (Kd.R_elder' HO_7.out (Kd.R_base ho0) hb)
    have _:=qm (Kd.R_elder' HO284.out (Kd.R_base ho0) hb)
    have _:=qm (Kd.R_elder' HO287.out (Kd.R_base ho0) hb)
    have _:=qm (Kd.R_lower (nw (nw (nw ho0 HO_7.out) HO284.out) HO287.out) (qs HB.out))
    have _:=qm (blk_below (g:=gb278) BK278.out hb)
    have _:=qm (qt HB.out hb)
    clear HO_7 HO284 HO287 BK278 HB
    rename_i HO_7 HO284 HO287 HO290 BK278 HB
    (try clear hb)
    (try clear hb2)
    (try clear hk)
    (try clear hi)
    (try clear ho0)
    obtain ⟨Ao20,co20,eo20⟩:=Kd.R_slice HO290.out
    (first|subst eo20|(injection eo20 with f1_ f2_ f3_;have f4_:=f1_.symm;have f5_:=f3_.symm;clear f1_ f2_ f3_;subst f4_;subst f5_))
    refine hK.out _ _ ⟨(qu BK278.out 0).trans rfl,(qu BK278.out 1).trans rfl,(qu BK278.out 2).trans rfl,(qu BK278.out 3).trans rfl⟩ (fun hHeld=>?_)
    clear hK K
    refine norm_ (a' :=?_) ?_ ?_
    rotate_left
    ·show Act.put _ (some 23) _=_
     simp only [Act.put,s1,s2,s3,i64_w,i32_w]
     rfl
    refine one_ (i:=8) (N:=some 24) (bm 9 10) rfl rfl (one_of HT_.out (by kernel_rfl)) (by decide) (fun K hK=>?_)
    refine Kd.R_append_rows_step (Kd.int .u8) (w0:=w) w.heap.size (by rfl) (.tmp 16) (.tmp 23) 22 5 (.int .u8 0) 1 rfl Try.underlying22 info5 rfl (by decide) (by omega) (.slice Ao12 x7_1.length co12) x7_1 t288 _ _ _ (fun k_=>ob k_ (.slice Ao15 t282.length co15)∧ob k_ (.slice Ao17 t285.length co17)∧ob k_ (.slice Ao20 t288.length co20)) (fun _=>False) rfl rfl ?aO ?aR (fun _ _ h=>h) (fun _ h=>h.elim) ?aF ?aB ?aS ?aL ?_
    (case aR=>exact cb ((qe HO290.out).2.2))
    (case aB=>exact HB.out)
    (case aF=>exact (fun k_ hk=>⟨Kd.fresh' (Kd.R_lt HO284.out) k_ hk,Kd.fresh' (Kd.R_lt HO287.out) k_ hk,Kd.fresh' (Kd.R_lt HO290.out) k_ hk⟩))
    (case aO=>exact (rb (qg HO_7.out (fun _ hk=>⟨hk.1.1.2,⟨hk.1.2,hk.2⟩⟩))))
    (case aS=>exact (qs HB.out))
    (case aL=>have:=LMc11.out;omega)
    intro v292 w19 ho hb hg hat
    rw [←Ny291.out] at ho
    have _:=qm (blk_grown (g:=gb278) BK278.out hg (Kd.R_ne HO_7.out BK278.out (by decide)))
    have _:=qm (Kd.R_after (ok:=(fun k_=>ob k_ (.slice Ao17 t285.length co17)∧ob k_ (.slice Ao20 t288.length co20))) (rb (qg HO284.out (fun _ hk=>⟨⟨hk.1.2,hk.2⟩,hk.1.1.2⟩))) hg hat)
    have _:=qm (Kd.R_after (ok:=(fun k_=>ob k_ (.slice Ao15 t282.length co15)∧ob k_ (.slice Ao20 t288.length co20))) (rb (qg HO287.out (fun _ hk=>⟨⟨hk.1.2,hk.2⟩,hk.1.1.2⟩))) hg hat)
    have _:=qm (Kd.R_after (ok:=(fun k_=>ob k_ (.slice Ao15 t282.length co15)∧ob k_ (.slice Ao17 t285.length co17))) (rb (qg HO290.out (fun _ hk=>⟨⟨hk.1.2,hk.2⟩,hk.1.1.2⟩))) hg hat)
    have _:=qm (hb)
    have _:=qm (ho)
    clear BK278 HO284 HO287 HO290 HB HO_7
    rename_i BK278 HO284 HO287 HO290 HB HO293
    clear ho hb hg hat
    refine hK.out _ _ ⟨(qu BK278.out 0).trans rfl,(qu BK278.out 1).trans rfl,(qu BK278.out 2).trans rfl,(qu BK278.out 3).trans rfl⟩ (fun hHeld=>?_)
    clear hK K
    refine norm_ (a' :=?_) ?_ ?_
    rotate_left
    ·show Act.put _ (some 24) _=_
     simp only [Act.put,s1,s2,s3,i64_w,i32_w]
     rfl
    refine pu 9 7 (bm 10 10) HT_ (h:=⟨_,by intro w';go_simp;with_reducible rfl,_,by simp only [Act.put,s1,s2,s3,i64_w,i32_w];rfl,?_⟩)
    refine done_ (done_of HT_.out (by kernel_rfl)) ?_
    try go_wp2
    go_roundg k1
    case measure=>have:=HK1.out;omega
    case rel=>exact ⟨(y291),(wrap64 (x8_1+1)),rfl,H',⟨by have:=HK1.out;omega⟩,⟨rb (qg HO293.out (fun _ hk=>trivial))⟩,⟨BK278.out⟩,⟨HB.out⟩⟩
   rw [if_neg c11] at H
   exact absurd H (by simp)
  rw [if_neg c7] at H
  have c7b0:decide ((x7_1.length:Int)<a2)=false:=decide_eq_false c7
  clear c7
  obtain rfl:=Option.some.inj H
  obtain ⟨Ao21,co21,eo21⟩:=Kd.R_slice HO_7.out
  subst eo21
  go_wp2
  go_ret
  exact ⟨_,by first|rfl|(simp <;> rfl)|(simp [*] <;> rfl),HO_7.out,HB.out⟩
end Go.Proofs.Ytcdkbdkanjifeaa.SFnExactProtectPacket
