/- The walk of functions that the law FnExactProtectPacket uses, written by program. -/
import Derived.Test.YtcdkbdkanjifeaaSFnExactProtectPacketx0
import Derived.Test.YtcdkbdkanjifeaaSFnExactProtectPacketx11
import Derived.Test.YtcdkbdkanjifeaaSteps2
import Derived.Test.YtcdkbdkanjifeaaSteps3
namespace Go.Proofs.Ytcdkbdkanjifeaa.SFnExactProtectPacket
open Go.Proofs.Ytcdkbdkanjifeaa.Steps3 Go.Proofs.Ytcdkbdkanjifeaa.Steps2 Go.RowKit Go.Proofs.YtcdkbdkanjifeaaW.PrintWords Go.Proofs.YtcdkbdkanjifeaaW.PrintLast Go.Proofs.YtcdkbdkanjifeaaW.PrintMore
open Go.Proofs.YtcdkbdkanjifeaaW.PrintWords renaming pw_below_drewN → qi, below_drew1 → qj, below_set → qk, blk_drew → qn, below_size → qs, below_step → qt, blk_cell → qu
open Go.Proofs.YtcdkbdkanjifeaaW.PrintWords.Kd renaming R_alloc → qb, R_drewN → qc, R_drew → qd, R_reads' → qe, R_mono → qg
open Go.Proofs.YtcdkbdkanjifeaaW.PrintWords.Aside0 renaming mk → qm
attribute [local go_sem] max2_int min2_int max_two min_two max_three min_three max_four min_four 
set_option linter.unusedVariables false
set_option linter.unusedSimpArgs false
def impl_streamed.l0:Nat→List Int→List Int→List Int→Int→Int→List Int→List Int→List Int→List Int→Option (List Int)
 |0,_,_,_,_,_,_,_,_,_=>none
 |k+1,x1,x7,x8,x14,x15,x518000,x518001,x518002,x518003=>if x15<x14 then (if (Int.tmod x15 16)=0 then ((some (([]:List Int):List Int)).bind fun y524=>(if y524.length+x1.length<140737488355328 then ((impl_fixed.f k (y524 ++ x1) (wrap64 (Int.tdiv x15 16)) 4).bind fun t530=>((impl_digest.f k x518001 t530).bind fun t533=>(if 0≤x15 then (if x15<(x7.length:Int) then (if 0≤(Int.tmod x15 16) then (if (Int.tmod x15 16)<(t533.length:Int) then (impl_streamed.l0 k x1 (x7.set (x15:Int).toNat (Go.bits .xor .u8 (rd x7 x15) (rd t533 (Int.tmod x15 16)))) t533 x14 (wrap64 (x15+1)) x518000 x518001 x518002 x518003) else (none)) else (none)) else (none)) else (none)))) else (none))) else (if 0≤x15 then (if x15<(x7.length:Int) then (if 0≤(Int.tmod x15 16) then (if (Int.tmod x15 16)<(x8.length:Int) then (impl_streamed.l0 k x1 (x7.set (x15:Int).toNat (Go.bits .xor .u8 (rd x7 x15) (rd x8 (Int.tmod x15 16)))) x8 x14 (wrap64 (x15+1)) x518000 x518001 x518002 x518003) else (none)) else (none)) else (none)) else (none))) else (some x7)
def impl_streamed.f (k:Nat) (l0_0:List Int) (l0_1:List Int) (l0_2:List Int) (l0_3:List Int) (l1:List Int) (l2:List Int):Option (List Int):=(some (([]:List Int):List Int)).bind fun y518=>(if y518.length+l2.length<140737488355328 then ((some (y518 ++ l2:List Int)).bind fun y521=>(impl_streamed.l0 k l1 y521 ([]:List Int) (y521.length:Int) 0 l0_0 l0_1 l0_2 l0_3)) else (none))
def impl_streamed.T7:Bool×List (List Nat×List Nat):=(true,[([],[]),([0],[0]),([],[]),([],[]),([2,3],[2,3]),([],[]),([5],[5]),([4,6,4],[4,6]),([1,7,7],[1,7]),([8,8,0,1,2,3,4,5,6,7,8],[8])])
def impl_streamed.B7:List Nat:=[0,1,0,0,12,0,32,124,255,511]
theorem impl_streamed.tab7:rtab .any (opsOf Try.f69 7)=impl_streamed.T7:=by kernel_rfl
theorem impl_streamed.bits7:waitsOk impl_streamed.T7.2 impl_streamed.B7=true:=by kernel_rfl
def impl_streamed.T8:Bool×List (List Nat×List Nat):=(true,[([],[]),([],[]),([0,1],[0,1]),([2],[2]),([],[]),([],[]),([5],[5]),([4,6],[4,6]),([7],[7]),([3,8],[3,8]),([0,1,0,1,2,3,4,5,6,7,8,9],[0,1]),([10,9,0,1,2,3,4,5,6,7,8,9],[9,10])])
def impl_streamed.B8:List Nat:=[0,0,3,7,0,0,32,112,240,511,1023,2047]
theorem impl_streamed.tab8:rtab .any (opsOf Try.f69 8)=impl_streamed.T8:=by kernel_rfl
theorem impl_streamed.bits8:waitsOk impl_streamed.T8.2 impl_streamed.B8=true:=by kernel_rfl
set_option maxHeartbeats 8000000 in
set_option maxRecDepth 100000 in
theorem impl_streamed.calls (k:Nat) (A0_0:Option Addr) (c0_0:Nat) (l0_0:List Int) (A0_1:Option Addr) (c0_1:Nat) (l0_1:List Int) (A0_2:Option Addr) (c0_2:Nat) (l0_2:List Int) (A0_3:Option Addr) (c0_3:Nat) (l0_3:List Int) (A1:Option Addr) (c1:Nat) (l1:List Int) (A2:Option Addr) (c2:Nat) (l2:List Int) (r:List Int) (w:World) (hr0_0:Kd.C (Kd.int .u8) w A0_0 l0_0.length l0_0) (hc0_0:l0_0.length≤c0_0) (hr0_1:Kd.C (Kd.int .u8) w A0_1 l0_1.length l0_1) (hc0_1:l0_1.length≤c0_1) (hr0_2:Kd.C (Kd.int .u8) w A0_2 l0_2.length l0_2) (hc0_2:l0_2.length≤c0_2) (hr0_3:Kd.C (Kd.int .u8) w A0_3 l0_3.length l0_3) (hc0_3:l0_3.length≤c0_3) (hr1:Kd.C (Kd.int .u8) w A1 l1.length l1) (hc1:l1.length≤c1) (hr2:Kd.C (Kd.int .u8) w A2 l2.length l2) (hc2:l2.length≤c2) (h:impl_streamed.f k l0_0 l0_1 l0_2 l0_3 l1 l2=some r) :
  Calls Try.prog 69 #[.agg #[.slice A0_0 l0_0.length c0_0, .slice A0_1 l0_1.length c0_1, .slice A0_2 l0_2.length c0_2, .slice A0_3 l0_3.length c0_3], .slice A1 l1.length c1, .slice A2 l2.length c2] w fun e w' =>∃ v0_:Value,e = .returned (v0_)∧Kd.R (Kd.int .u8) 5 w' w.heap.size (fun _=>True) v0_ r∧Below w.heap.size w w' :=by
 have hu33:=Try.underlying33
 have HR0_0:=qm hr0_0
 have HC0_0:=qm hc0_0
 clear hr0_0 hc0_0
 have HR0_1:=qm hr0_1
 have HC0_1:=qm hc0_1
 clear hr0_1 hc0_1
 have HR0_2:=qm hr0_2
 have HC0_2:=qm hc0_2
 clear hr0_2 hc0_2
 have HR0_3:=qm hr0_3
 have HC0_3:=qm hc0_3
 clear hr0_3 hc0_3
 have HR1:=qm hr1
 have HC1:=qm hc1
 clear hr1 hc1
 have HR2:=qm hr2
 have HC2:=qm hc2
 clear hr2 hc2
 have HB:=qm (Below.refl w.heap.size w)
 have H:((some (([]:List Int):List Int)).bind fun y518=>(if y518.length+l2.length<140737488355328 then ((some (y518 ++ l2:List Int)).bind fun y521=>(impl_streamed.l0 k l1 y521 ([]:List Int) (y521.length:Int) 0 l0_0 l0_1 l0_2 l0_3)) else (none)))=some r:=h
 clear h
 obtain ⟨y518,hy518⟩:∃ y_:List Int,y_=(([]:List Int)):=⟨_,rfl⟩
 replace H:(if y518.length+l2.length<140737488355328 then ((some (y518 ++ l2:List Int)).bind fun y521=>(impl_streamed.l0 k l1 y521 ([]:List Int) (y521.length:Int) 0 l0_0 l0_1 l0_2 l0_3)) else (none))=some r:=by first|(rw [hy518];with_reducible exact H)|(have H2_:=(Option.bind_some _ _).symm.trans H;rw [hy518];with_reducible exact H2_)|(have H2_:=(Option.bind_some _ _).symm.trans H;with_reducible exact H2_)|with_reducible exact H|(rw [hy518];exact H)|exact H
 have Ny518:=qm hy518
 clear hy518
 by_cases c4:y518.length+l2.length<140737488355328
 ·rw [if_pos c4] at H
  have LMc4:=qm c4
  clear c4
  obtain ⟨y521,hy521⟩:∃ y_:List Int,y_=(y518 ++ l2):=⟨_,rfl⟩
  replace H:(impl_streamed.l0 k l1 y521 ([]:List Int) (y521.length:Int) 0 l0_0 l0_1 l0_2 l0_3)=some r:=by first|(rw [hy521];with_reducible exact H)|(have H2_:=(Option.bind_some _ _).symm.trans H;rw [hy521];with_reducible exact H2_)|(have H2_:=(Option.bind_some _ _).symm.trans H;with_reducible exact H2_)|with_reducible exact H|(rw [hy521];exact H)|exact H
  have Ny521:=qm hy521
  clear hy521
  have H' :=qm H
  clear H
  go_enter Try.func69,Try.ntmps69
  go_wp2_with (first|((with_reducible refine gate_dst (N:=3) rfl ?_);refine box_event (by rfl) (N:=3) (by rfl) (cs:=#[.slice A0_0 l0_0.length c0_0, .slice A0_1 l0_1.length c0_1, .slice A0_2 l0_2.length c0_2, .slice A0_3 l0_3.length c0_3]) (t:=33) (by first|(go_simp;done)|(go_simp;rfl)) ?_;intro gb517 hg w5 hbox hb;have _:=qm (qt HB.out hb);have _:=qm (hbox);have _:=qm ((gs hg (qs HB.out)));have _:=qm ((gs hg (qs HB.out)));clear HB;rename_i HB BK517 GW517 GE517;clear hb hbox hg)|((with_reducible refine gate_dst (N:=10) rfl ?_);refine Kd.R_lit (Kd.int .u8) _ 5 ?hg (N:=10) ?hd (xs:=([]:List Int)) (inner:=[]) (ok:=fun _=>True) (okp:=fun _=>True) ?hr ?hp (fun _ hk=>hk) trivial (Below.refl _ _) (Nat.le_refl _) (by simp) ?_;(case hd=>rfl);(case hg=>rfl);(case hr=>first|(go_simp;done)|(go_simp;rfl));(case hp=>exact (Reps.none _ _));intro v519 w6 ho7 hb hg_ hnew_;clear hg_ hnew_;(first|rw [←Ny518.out] at ho7|(simp only [Int.reduceToNat] at ho7;rw [←Ny518.out] at ho7));have _:=qm (Kd.R_lower ho7 (qs HB.out));have _:=qm (blk_below (g:=gb517) BK517.out hb);have _:=qm (qt HB.out hb);clear BK517 HB;rename_i HO520 BK517 HB;clear hb ho7)|((with_reducible refine gate_builtin (b:= .append) (xs:=#[.tmp 10, .tmp 11]) rfl ?_);at_builtin;refine Kd.R_append_rows (Kd.int .u8) (w0:=w) w.heap.size rfl (.tmp 10) (.tmp 11) 22 5 (.int .u8 0) 1 rfl Try.underlying22 info5 rfl (by decide) (by omega) v519 y518 l2 _ _ _ (fun _=>True) (fun _=>False) rfl rfl ?aO ?aR (fun _ _ h=>h) (fun _ h=>h.elim) ?aF ?aB ?aS ?aL ?_;(case aR=>exact cb (Kd.C_below HR2.out HB.out));(case aB=>exact HB.out);(case aF=>exact (fun _ _=>trivial));(case aO=>exact HO520.out);(case aS=>exact (qs HB.out));(case aL=>have:=LMc4.out;omega);intro v522 w8 ho hb hg hat;rw [←Ny521.out] at ho;have _:=qm (blk_grown (g:=gb517) BK517.out hg (Kd.R_ne HO520.out BK517.out (by decide)));have _:=qm (hb);have _:=qm (ho);clear BK517 HB HO520;rename_i BK517 HB HO523;clear ho hb hg hat;obtain ⟨Ao9,co9,eo9⟩:=Kd.R_slice HO523.out;subst eo9))
  go_loopg [8,15] k (fun kq v8 v15 w' =>∃ (x7_1:List Int) (x8_1:List Int) (x15_1:Int),v15 = .int .i64 x15_1∧Aside0 (impl_streamed.l0 kq l1 x7_1 x8_1 (y521.length:Int) x15_1 l0_0 l0_1 l0_2 l0_3=some r)∧Aside0 (kq≤k)∧Aside0 (Kd.R (Kd.int .u8) 5 w' w.heap.size (fun k_=>ob k_ v8) (.slice Ao9 y521.length co9) x7_1)∧Aside0 (Kd.R (Kd.int .u8) 5 w' w.heap.size (fun k_=>ob k_ ((.slice Ao9 y521.length co9))) v8 x8_1)∧Aside0 (w'.heap[gb517]? =some (.cells #[(.slice A0_0 l0_0.length c0_0),(.slice A0_1 l0_1.length c0_1),(.slice A0_2 l0_2.length c0_2),(.slice A0_3 l0_3.length c0_3)] 33 (0,0)))∧Aside0 (Below w.heap.size w w'))
  case atStart=>exact ⟨(y521),(([]:List Int)),(0),(by first|rfl|(simp;done)|(simp [*];done)),H',⟨Nat.le_refl _⟩,⟨rb (qg HO523.out (fun _ hk=>(by simp [Value.ownBlock])))⟩,⟨by first|exact Kd.R_nil _ _ _ _ _|exact Kd.N_nil _ _ _ _ _|exact Kd.V_nil _ _ _ _ _|exact Kd.Q_nil _ _ _ _ _|exact Kd.S_nil _ _ _ _ _⟩,⟨BK517.out⟩,⟨HB.out⟩⟩
  case round=>
   clear H'
   try clear c1
   try clear c2
   try clear c4
   obtain ⟨x7_1,x8_1,x15_1,rfl,HA,HK1,HO_7,HO_8,BK517,HB⟩:=hrel
   have hl7_1:=(qe HO_7.out).1
   rw [hl7_1] at HO_7
   (try simp only [hl7_1])
   (try simp only [hl7_1] at BK517)
   (try simp only [hl7_1] at HO_8)
   cases gk with
   |zero=>exact absurd HA.out (by simp [impl_streamed.l0])
   |succ k1=>?_
   have H:=HA.out
   clear HA
   simp only [impl_streamed.l0] at H
   by_cases c10:x15_1<(y521.length:Int)
   ·rw [if_pos c10] at H
    have c10b0:decide (x15_1<(y521.length:Int))=true:=decide_eq_true c10
    clear c10
    by_cases c11:(Int.tmod x15_1 16)=0
    ·rw [if_pos c11] at H
     have c11b0:((Int.tmod x15_1 16) == 0)=true:=beq_iff_eq.mpr c11
     have c11b1:((Int.tmod x15_1 16) != 0)=false:=bne_eq_false_iff_eq.mpr c11
     clear c11
     obtain ⟨y524,hy524⟩:∃ y_:List Int,y_=(([]:List Int)):=⟨_,rfl⟩
     replace H:(if y524.length+l1.length<140737488355328 then ((impl_fixed.f k1 (y524 ++ l1) (wrap64 (Int.tdiv x15_1 16)) 4).bind fun t530=>((impl_digest.f k1 l0_1 t530).bind fun t533=>(if 0≤x15_1 then (if x15_1<(x7_1.length:Int) then (if 0≤(Int.tmod x15_1 16) then (if (Int.tmod x15_1 16)<(t533.length:Int) then (impl_streamed.l0 k1 l1 (x7_1.set (x15_1:Int).toNat (Go.bits .xor .u8 (rd x7_1 x15_1) (rd t533 (Int.tmod x15_1 16)))) t533 (y521.length:Int) (wrap64 (x15_1+1)) l0_0 l0_1 l0_2 l0_3) else (none)) else (none)) else (none)) else (none)))) else (none))=some r:=by first|(rw [hy524];with_reducible exact H)|(have H2_:=(Option.bind_some _ _).symm.trans H;rw [hy524];with_reducible exact H2_)|(have H2_:=(Option.bind_some _ _).symm.trans H;with_reducible exact H2_)|with_reducible exact H|(rw [hy524];exact H)|exact H
     have Ny524:=qm hy524
     clear hy524
     by_cases c12:y524.length+l1.length<140737488355328
     ·rw [if_pos c12] at H
      have LMc12:=qm c12
      clear c12
      obtain ⟨y527,hy527⟩:∃ y_:List Int,y_=(y524 ++ l1):=⟨_,rfl⟩
      replace H:((impl_fixed.f k1 y527 (wrap64 (Int.tdiv x15_1 16)) 4).bind fun t530=>((impl_digest.f k1 l0_1 t530).bind fun t533=>(if 0≤x15_1 then (if x15_1<(x7_1.length:Int) then (if 0≤(Int.tmod x15_1 16) then (if (Int.tmod x15_1 16)<(t533.length:Int) then (impl_streamed.l0 k1 l1 (x7_1.set (x15_1:Int).toNat (Go.bits .xor .u8 (rd x7_1 x15_1) (rd t533 (Int.tmod x15_1 16)))) t533 (y521.length:Int) (wrap64 (x15_1+1)) l0_0 l0_1 l0_2 l0_3) else (none)) else (none)) else (none)) else (none))))=some r:=by first|(rw [hy527];with_reducible exact H)|(have H2_:=(Option.bind_some _ _).symm.trans H;rw [hy527];with_reducible exact H2_)|(have H2_:=(Option.bind_some _ _).symm.trans H;with_reducible exact H2_)|with_reducible exact H|(rw [hy527];exact H)|exact H
      have Ny527:=qm hy527
      clear hy527
      replace H:=Option.bind_eq_some_iff.mp H
      obtain ⟨t530,A130,H⟩:=H
      try dsimp only at H
      have A13:=qm A130
      clear A130
      replace H:=Option.bind_eq_some_iff.mp H
      obtain ⟨t533,A140,H⟩:=H
      try dsimp only at H
      have A14:=qm A140
      clear A140
      by_cases c15:0≤x15_1
      ·rw [if_pos c15] at H
       have c15b0:decide (0≤x15_1)=true:=decide_eq_true c15
       clear c15
       by_cases c16:x15_1<(x7_1.length:Int)
       ·rw [if_pos c16] at H
        have c16b0:decide (x15_1<(x7_1.length:Int))=true:=decide_eq_true c16
        clear c16
        obtain ⟨ji17,hji17⟩:∃ j_:Int,(Int.tmod x15_1 16)=j_:=⟨_,rfl⟩
        replace H:(if 0≤(ji17) then (if (ji17)<(t533.length:Int) then (impl_streamed.l0 k1 l1 (x7_1.set (x15_1:Int).toNat (Go.bits .xor .u8 (rd x7_1 x15_1) (rd t533 (ji17)))) t533 (y521.length:Int) (wrap64 (x15_1+1)) l0_0 l0_1 l0_2 l0_3) else (none)) else (none))=some r:=by first|(rw [hji17] at H;exact H)|(simp only [hji17] at H ⊢;exact H)
        (try rw [hji17] at c11b0)
        (try rw [hji17] at c11b1)
        (try rw [hji17] at A13)
        (try rw [hji17] at A14)
        by_cases c18:0≤(ji17)
        ·rw [if_pos c18] at H
         have c18b0:decide (0≤(ji17))=true:=decide_eq_true c18
         clear c18
         by_cases c19:(ji17)<(t533.length:Int)
         ·rw [if_pos c19] at H
          have c19b0:decide ((ji17)<(t533.length:Int))=true:=decide_eq_true c19
          clear c19
          obtain ⟨y538,hy538⟩:∃ y_:List Int,y_=(x7_1.set (x15_1:Int).toNat (Go.bits .xor .u8 (rd x7_1 x15_1) (rd t533 (ji17)))):=⟨_,rfl⟩
          replace H:(impl_streamed.l0 k1 l1 y538 t533 (y521.length:Int) (wrap64 (x15_1+1)) l0_0 l0_1 l0_2 l0_3)=some r:=by first|(rw [hy538];with_reducible exact H)|(have H2_:=(Option.bind_some _ _).symm.trans H;rw [hy538];with_reducible exact H2_)|(have H2_:=(Option.bind_some _ _).symm.trans H;with_reducible exact H2_)|with_reducible exact H|(rw [hy538];exact H)|exact H
          have Ny538:=qm hy538
          clear hy538
          have H' :=qm H
          clear H
          try go_wp2
          have _:=qm (qd HO_7.out)
          have _:=qm (qd HO_8.out)
          have _:=qm (qn BK517.out)
          have _:=qm (qj HB.out)
          clear HO_7 HO_8 BK517 HB
          rename_i HO_7 HO_8 BK517 HB
          refine start_ (n:=10) (S:=fun w' =>w'.cell? ⟨gb517,0,none⟩=some (.slice A0_0 l0_0.length c0_0)∧w'.cell? ⟨gb517,1,none⟩=some (.slice A0_1 l0_1.length c0_1)∧w'.cell? ⟨gb517,2,none⟩=some (.slice A0_2 l0_2.length c0_2)∧w'.cell? ⟨gb517,3,none⟩=some (.slice A0_3 l0_3.length c0_3)) (ds:=[]) (bm 0 10) (by kernel_rfl) rfl rfl ⟨(qu BK517.out 0).trans rfl,(qu BK517.out 1).trans rfl,(qu BK517.out 2).trans rfl,(qu BK517.out 3).trans rfl⟩ (fun hHeld=>?_);refine with_tabW impl_streamed.tab7 impl_streamed.bits7 (fun HT_ HW_=>?_)
          generalize wr.drew=w21 at HO_7 HO_8 BK517 HB hHeld ⊢
          refine pu 0 21 (bm 1 10) HT_ (h:=⟨_,by intro w';go_simp;with_reducible rfl,_,by simp only [Act.put,s1,s2,s3,i64_w,i32_w];rfl,?_⟩)
          refine pu 3 24 (bb 9 10) HT_ (h:=⟨_,by intro w';go_simp;with_reducible rfl,_,by simp only [Act.put,s1,s2,s3,i64_w,i32_w];rfl,?_⟩)
          refine pu 5 26 (bb 41 10) HT_ (h:=⟨_,by intro w';go_simp;with_reducible rfl,_,by simp only [Act.put,s1,s2,s3,i64_w,i32_w];rfl,?_⟩)
          refine pu 6 27 (bb 105 10) HT_ (h:=⟨_,by intro w';go_simp;with_reducible rfl,_,by simp only [Act.put,s1,s2,s3,i64_w,i32_w];rfl,?_⟩)
          refine tk 1 22 (bb 107 10) HT_ HW_ (hS:=hHeld) (h:=⟨_,by rintro w' ⟨s0,s1,s2,s3⟩;go_simp;with_reducible rfl,_,by simp only [Act.put,s1,s2,s3,i64_w,i32_w];rfl,?_⟩)
          refine one_ (i:=2) (N:=some 23) (bb 111 10) rfl rfl (one_of HT_.out (by kernel_rfl)) (by decide) (fun K hK=>?_)
          refine Kd.R_lit_step (Kd.int .u8) _ 5 ?hg (N:=23) ?hd (xs:=([]:List Int)) (inner:=[]) (ok:=fun _=>True) (okp:=fun _=>True) ?hr ?hp (fun _ hk=>hk) trivial (Below.refl _ _) (Nat.le_refl _) (by simp) ?_;(case hd=>rfl);(case hg=>rfl);(case hr=>first|(go_simp;done)|(go_simp;rfl));(case hp=>exact (Reps.none _ _))
          intro v525 w22 ho23 hb hg_ hnew_
          clear hg_ hnew_
          (first|rw [←Ny524.out] at ho23|(simp only [Int.reduceToNat] at ho23;rw [←Ny524.out] at ho23))
          have _:=qm (Kd.R_elder' HO_7.out (Kd.R_base ho23) hb)
          have _:=qm (Kd.R_elder' HO_8.out (Kd.R_base ho23) hb)
          have _:=qm (Kd.R_lower (nw (nw ho23 HO_7.out) HO_8.out) (qs HB.out))
          have _:=qm (blk_below (g:=gb517) BK517.out hb)
          have _:=qm (qt HB.out hb)
          clear HO_7 HO_8 BK517 HB
          rename_i HO_7 HO_8 HO526 BK517 HB
          clear hb ho23
          refine hK.out _ _ ⟨(qu BK517.out 0).trans rfl,(qu BK517.out 1).trans rfl,(qu BK517.out 2).trans rfl,(qu BK517.out 3).trans rfl⟩ (fun hHeld=>?_)
          clear hK K
          refine norm_ (a' :=?_) ?_ ?_
          rotate_left
          ·show Act.put _ (some 23) _=_
           simp only [Act.put,s1,s2,s3,i64_w,i32_w]
           rfl
          refine one_ (i:=4) (N:=some 25) (bm 7 10) rfl rfl (one_of HT_.out (by kernel_rfl)) (by decide) (fun K hK=>?_)
          refine Kd.R_append_rows_step (Kd.int .u8) (w0:=w) w.heap.size (by rfl) (.tmp 23) (.tmp 24) 22 5 (.int .u8 0) 1 rfl Try.underlying22 info5 rfl (by decide) (by omega) v525 y524 l1 _ _ _ (fun k_=>ob k_ (.slice Ao9 x7_1.length co9)∧ob k_ u8) (fun _=>False) rfl rfl ?aO ?aR (fun _ _ h=>h) (fun _ h=>h.elim) ?aF ?aB ?aS ?aL ?_
          (case aR=>exact cb (Kd.C_below HR1.out HB.out))
          (case aB=>exact HB.out)
          (case aF=>exact (fun k_ hk=>⟨Kd.fresh' (Kd.R_lt HO_7.out) k_ hk,Kd.fresh' (Kd.R_lt HO_8.out) k_ hk⟩))
          (case aO=>exact (rb (qg HO526.out (fun _ hk=>⟨hk.1.2,hk.2⟩))))
          (case aS=>exact (qs HB.out))
          (case aL=>have:=LMc12.out;omega)
          intro v528 w24 ho hb hg hat
          rw [←Ny527.out] at ho
          have _:=qm (Kd.R_after (ok:=(fun k_=>ob k_ u8)) HO_7.out hg hat)
          have _:=qm (Kd.R_after (ok:=(fun k_=>ob k_ (.slice Ao9 x7_1.length co9))) HO_8.out hg hat)
          have _:=qm (blk_grown (g:=gb517) BK517.out hg (Kd.R_ne HO526.out BK517.out (by decide)))
          have _:=qm (hb)
          have _:=qm (ho)
          clear HO_7 HO_8 BK517 HB HO526
          rename_i HO_7 HO_8 BK517 HB HO529
          clear ho hb hg hat
          obtain ⟨Ao25,co25,eo25⟩:=Kd.R_slice HO529.out
          (first|subst eo25|(injection eo25 with f1_ f2_ f3_;have f4_:=f1_.symm;have f5_:=f3_.symm;clear f1_ f2_ f3_;subst f4_;subst f5_))
          refine hK.out _ _ ⟨(qu BK517.out 0).trans rfl,(qu BK517.out 1).trans rfl,(qu BK517.out 2).trans rfl,(qu BK517.out 3).trans rfl⟩ (fun hHeld=>?_)
          clear hK K
          refine norm_ (a' :=?_) ?_ ?_
          rotate_left
          ·show Act.put _ (some 25) _=_
           simp only [Act.put,s1,s2,s3,i64_w,i32_w]
           rfl
          refine one_ (i:=7) (N:=some 28) (bm 8 10) rfl rfl (one_of HT_.out (by kernel_rfl)) (by decide) (fun K hK=>?_)
          refine goes_ Try.func80 (by kernel_rfl) rfl #[.slice Ao25 y527.length co25, .int .i64 (wrap64 (Int.tdiv x15_1 16)), .int .i64 4] (by rfl) rfl rfl (by (try simp only [m1,m2,m3]);first|done|rfl) ?_
          with_reducible refine (impl_fixed.calls k1 (fun k_=>some k_=(.slice Ao25 y527.length co25:Value).ownBlock) (.slice Ao25 y527.length co25) y527 (wrap64 (Int.tdiv x15_1 16)) 4 t530 w _ ?side1 ?side2 A13.out).mono ?_
          (case side1=>repeat (first|(with_reducible first|exact HB.out|apply below_alloc|apply qi|apply qj|refine qk ?_ GE517.out)|exact HB.out))
          (case side2=>exact Kd.R_tight rfl HO529.out)
          rintro e w26 ⟨v531,rfl,ho0,hb,hkp⟩
          refine ⟨_,rfl,?_⟩
          have _:=qm (qg (ok' :=fun k_=>ob k_ u8∧ob k_ v531) (Kd.R_keptB (HO_7.out) hkp (fun k_ hk_ hs_=>(hk_.2) hs_)) (fun k_ hk_=>⟨hk_.1.1,fun e_=>Or.elim (ho0.1 k_ e_.symm) (fun hs_=>hk_.2.1 hs_) (fun hn_=>Nat.not_le.2 hk_.2.2 hn_)⟩))
          have _:=qm (qg (ok' :=fun k_=>ob k_ (.slice Ao9 x7_1.length co9)∧ob k_ v531) (Kd.R_keptB (HO_8.out) hkp (fun k_ hk_ hs_=>(hk_.2) hs_)) (fun k_ hk_=>⟨hk_.1.1,fun e_=>Or.elim (ho0.1 k_ e_.symm) (fun hs_=>hk_.2.1 hs_) (fun hn_=>Nat.not_le.2 hk_.2.2 hn_)⟩))
          have _:=qm (blk_kept BK517.out hkp (fun hs_=>(fun e_=>(Kd.R_ne HO529.out BK517.out (by decide)) e_) hs_))
          have _:=qm (qg (ok' :=fun k_=>ob k_ (.slice Ao9 x7_1.length co9)∧ob k_ u8) ho0 (fun k_ hk_=>⟨Or.elim hk_ (fun hs_=>fun e_=>(((HO_7.out).1 k_ e_.symm).2) hs_) (fun hn_=>(Kd.fresh' (Kd.R_lt HO_7.out) k_ hn_)),Or.elim hk_ (fun hs_=>fun e_=>(((HO_8.out).1 k_ e_.symm).2) hs_) (fun hn_=>(Kd.fresh' (Kd.R_lt HO_8.out) k_ hn_))⟩))
          have _:=qm (hb)
          clear HO_7 HO_8 BK517 HB HO529
          rename_i HO_7 HO_8 BK517 HO532 HB
          (try clear hb)
          (try clear hkp)
          (try clear ho0)
          obtain ⟨Ao27,co27,eo27⟩:=Kd.R_slice HO532.out
          (first|subst eo27|(injection eo27 with f1_ f2_ f3_;have f4_:=f1_.symm;have f5_:=f3_.symm;clear f1_ f2_ f3_;subst f4_;subst f5_))
          refine hK.out _ _ ⟨(qu BK517.out 0).trans rfl,(qu BK517.out 1).trans rfl,(qu BK517.out 2).trans rfl,(qu BK517.out 3).trans rfl⟩ (fun hHeld=>?_)
          clear hK K
          refine norm_ (a' :=?_) ?_ ?_
          rotate_left
          ·show Act.put _ (some 28) _=_
           simp only [Act.put,s1,s2,s3,i64_w,i32_w]
           rfl
          refine one_ (i:=8) (N:=some 29) (bm 9 10) rfl rfl (one_of HT_.out (by kernel_rfl)) (by decide) (fun K hK=>?_)
          refine goes_ Try.func51 (by kernel_rfl) rfl #[.slice A0_1 l0_1.length c0_1, .slice Ao27 t530.length co27] (by rfl) rfl rfl (by (try simp only [m1,m2,m3]);first|done|rfl) ?_
          with_reducible refine (impl_digest.calls k1 _ _ l0_1 _ _ t530 t533 _ ?side1 ?side2 ?side3 ?side4 A14.out).mono ?_
          (case side1=>exact cb (Kd.C_below HR0_1.out HB.out))
          (case side2=>exact HC0_1.out)
          (case side3=>exact cb ((qe HO532.out).2.2))
          (case side4=>exact (qe HO532.out).2.1)
          rintro e w28 ⟨v534,rfl,ho0,hb⟩
          refine ⟨_,rfl,?_⟩
          have _:=qm (Kd.R_elder' HO_7.out (Kd.R_base ho0) hb)
          have _:=qm (Kd.R_elder' HO_8.out (Kd.R_base ho0) hb)
          have _:=qm (Kd.R_elder' HO532.out (Kd.R_base ho0) hb)
          have _:=qm (Kd.R_lower (nw (nw (nw ho0 HO_7.out) HO_8.out) HO532.out) (qs HB.out))
          have _:=qm (blk_below (g:=gb517) BK517.out hb)
          have _:=qm (qt HB.out hb)
          clear HO_7 HO_8 HO532 BK517 HB
          rename_i HO_7 HO_8 HO532 HO535 BK517 HB
          (try clear hb)
          (try clear hb2)
          (try clear hk)
          (try clear hi)
          (try clear ho0)
          refine hK.out _ _ ⟨(qu BK517.out 0).trans rfl,(qu BK517.out 1).trans rfl,(qu BK517.out 2).trans rfl,(qu BK517.out 3).trans rfl⟩ (fun hHeld=>?_)
          clear hK K
          refine norm_ (a' :=?_) ?_ ?_
          rotate_left
          ·show Act.put _ (some 29) _=_
           simp only [Act.put,s1,s2,s3,i64_w,i32_w]
           rfl
          refine pu 9 8 (bm 10 10) HT_ (h:=⟨_,by intro w';go_simp;with_reducible rfl,_,by simp only [Act.put,s1,s2,s3,i64_w,i32_w];rfl,?_⟩)
          refine done_ (done_of HT_.out (by kernel_rfl)) ?_
          try go_wp2
          have _:=qm (qd HO_7.out)
          have _:=qm (qd HO_8.out)
          have _:=qm (qd HO532.out)
          have _:=qm (qd HO535.out)
          have _:=qm (qn BK517.out)
          have _:=qm (qj HB.out)
          clear HO_7 HO_8 HO532 HO535 BK517 HB
          rename_i HO_7 HO_8 HO532 HO535 BK517 HB
          have p536:0≤(x15_1:Int):=of_decide_eq_true (by assumption)
          have q536:x15_1<(x7_1.length:Int):=of_decide_eq_true (by assumption)
          obtain ⟨ad536,e536,hx536_0⟩:=Kd.at_int (qe HO_7.out).2.2 x15_1 p536 q536
          cases e536
          replace p536:=eq_true p536
          replace q536:=eq_true q536
          obtain ⟨Ao30,co30,eo30⟩:=Kd.R_slice HO535.out
          (first|subst eo30|(injection eo30 with f1_ f2_ f3_;have f4_:=f1_.symm;have f5_:=f3_.symm;clear f1_ f2_ f3_;subst f4_;subst f5_))
          have p537:0≤((ji17):Int):=of_decide_eq_true (by assumption)
          have q537:(ji17)<(t533.length:Int):=of_decide_eq_true (by assumption)
          obtain ⟨ad537,e537,hx537_0⟩:=Kd.at_int (qe HO535.out).2.2 (ji17) p537 q537
          cases e537
          replace p537:=eq_true p537
          replace q537:=eq_true q537
          have p20:0≤(x15_1:Int):=of_decide_eq_true (by assumption)
          have q20:(x15_1:Int)<((x7_1.length:Int):Int):=of_decide_eq_true (by assumption)
          obtain ⟨go20,co20,eo20,gb20,gl20,cl20,HG20⟩:=Kd.R_form HO_7.out (by omega)
          (first|cases eo20|(injection eo20 with ea_ en_ ec_;(first|subst ea_|(injection ea_ with ea_;subst ea_));subst ec_;clear en_))
          have GB20:=qm gb20
          have GG20:=qm HG20
          clear gb20 gl20 HG20
          (first|simp only [add_plain] at hx536_0|skip)
          obtain ⟨hx20_0,hf20_0⟩:=Kd.R_celln 0 HO_7.out (x15_1:Int) p20 q20
          replace p20:=eq_true p20
          replace q20:=eq_true q20
          have HP31:=Kd.R_putn HO_7.out (x15_1:Int) (Go.bits .xor .u8 (rd x7_1 x15_1) (rd t533 (ji17)))
          rw [←Ny538.out] at HP31
          have HQ31:=qm HP31
          clear HP31
          refine start_ (n:=12) (S:=fun w' =>w'.cell? ⟨go20,(x15_1).toNat,none⟩=some (.int .u8 (rd x7_1 x15_1))∧w'.cell? (ad537.add ((ji17)).toNat)=some (.int .u8 (rd t533 (ji17)))) (ds:=[11]) (bm 0 12) (by kernel_rfl) rfl rfl ⟨hx536_0,hx537_0⟩ (fun hHeld=>?_);refine with_tabW impl_streamed.tab8 impl_streamed.bits8 (fun HT_ HW_=>?_)
          generalize w28.drew=w29 at HO_7 HO_8 HO532 HO535 BK517 HB GG20 HQ31 hf20_0 hx20_0 hx536_0 hx537_0 hHeld ⊢
          refine pu 0 30 (bm 1 12) HT_ (h:=⟨_,by intro w';go_simp;with_reducible rfl,_,by simp only [Act.put,s1,s2,s3,i64_w,i32_w];rfl,?_⟩)
          refine pu 1 31 (bm 2 12) HT_ (h:=⟨_,by intro w';go_simp;with_reducible rfl,_,by simp only [Act.put,s1,s2,s3,i64_w,i32_w];rfl,?_⟩)
          refine pu 2 32 (bm 3 12) HT_ (h:=⟨_,by intro w';go_simp;with_reducible rfl,_,by simp only [Act.put,s1,s2,s3,i64_w,i32_w];rfl,?_⟩)
          refine pu 4 34 (bb 23 12) HT_ (h:=⟨_,by intro w';go_simp;with_reducible rfl,_,by simp only [Act.put,s1,s2,s3,i64_w,i32_w];rfl,?_⟩)
          refine pu 5 35 (bb 55 12) HT_ (h:=⟨_,by intro w';go_simp;with_reducible rfl,_,by simp only [Act.put,s1,s2,s3,i64_w,i32_w];rfl,?_⟩)
          refine pu 6 36 (bb 119 12) HT_ (h:=⟨_,by intro w';go_simp;with_reducible rfl,_,by simp only [Act.put,s1,s2,s3,i64_w,i32_w];rfl,?_⟩)
          refine pu 7 37 (bb 247 12) HT_ (h:=⟨_,by intro w';go_simp;with_reducible rfl,_,by simp only [Act.put,s1,s2,s3,i64_w,i32_w];rfl,?_⟩)
          refine tk 3 33 (bm 8 12) HT_ HW_ (hS:=hHeld) (h:=⟨_,by rintro w' ⟨s0,s1⟩;go_simp;with_reducible rfl,_,by simp only [Act.put,s1,s2,s3,i64_w,i32_w];rfl,?_⟩)
          refine tk 8 38 (bm 9 12) HT_ HW_ (hS:=hHeld) (h:=⟨_,by rintro w' ⟨s0,s1⟩;go_simp;with_reducible rfl,_,by simp only [Act.put,s1,s2,s3,i64_w,i32_w];rfl,?_⟩)
          refine pu 9 39 (bm 10 12) HT_ (h:=⟨_,by intro w';go_simp;with_reducible rfl,_,by simp only [Act.put,s1,s2,s3,i64_w,i32_w];rfl,?_⟩)
          refine pu 10 40 (bm 11 12) HT_ (h:=⟨_,by intro w';go_simp;with_reducible rfl,_,by simp only [Act.put,s1,s2,s3,i64_w,i32_w];rfl,?_⟩)
          refine last_ (i:=11) (N:=none) (bm 12 12) rfl rfl (one_of HT_.out (by kernel_rfl)) (by decide) (fun K hK=>?_)
          refine skip_ (w1:=?_) (by rfl) rfl ?_ ?_
          rotate_left
          ·go_simp
           rfl
          refine hK.out _ _ ?_
          clear hK K
          refine done_ (done_of HT_.out (by kernel_rfl)) ?_
          try go_wp2
          (try simp only [←hl7_1])
          go_roundg k1
          case measure=>have:=HK1.out;omega
          case rel=>exact ⟨(y538),(t533),(wrap64 (x15_1+1)),(by first|rfl|(simp;done)|(simp [*];done)),H',⟨by have:=HK1.out;omega⟩,⟨by (try simp only [hl7_1]);(with_reducible repeat (first|apply qb|apply qc|apply qd));exact qg HQ31.out (fun _ hk=>hk.2)⟩,⟨by (try simp only [hl7_1]);(with_reducible repeat (first|apply qb|apply qc|apply qd));exact qg (Kd.R_far (p:=⟨go20,(x15_1:Int).toNat,none⟩) (qg HO535.out (fun k_ hk=>(⟨hk,fun e_=>hk.1.1.2 (by rw [e_];rfl)⟩:_∧k_≠go20))) (fun _ hk=>hk.2) (.int .u8 (Go.bits .xor .u8 (rd x7_1 x15_1) (rd t533 (ji17))))) (fun _ hk=>hk.1.1.1.2)⟩,⟨by (try simp only [hl7_1]);(with_reducible repeat (first|refine blk_drewN ?_ _|refine qn ?_|refine blk_alloc ?_ _));refine blk_far ?_ (by have h_:=Kd.R_ne HO_7.out BK517.out (by decide);intro e_;exact h_ (by rw [e_];rfl)) _;(with_reducible repeat (first|refine blk_drewN ?_ _|refine qn ?_|refine blk_alloc ?_ _));exact BK517.out⟩,⟨by repeat (first|(with_reducible first|exact HB.out|apply below_alloc|apply qi|apply qj|refine qk ?_ GB20.out|refine qk ?_ GE517.out)|exact HB.out)⟩⟩
         rw [if_neg c19] at H
         exact absurd H (by simp)
        rw [if_neg c18] at H
        exact absurd H (by simp)
       rw [if_neg c16] at H
       exact absurd H (by simp)
      rw [if_neg c15] at H
      exact absurd H (by simp)
     rw [if_neg c12] at H
     exact absurd H (by simp)
    rw [if_neg c11] at H
    have c11b0:((Int.tmod x15_1 16) == 0)=false:=beq_eq_false_iff_ne.mpr c11
    have c11b1:((Int.tmod x15_1 16) != 0)=true:=bne_iff_ne.mpr c11
    by_cases c32:0≤x15_1
    ·rw [if_pos c32] at H
     have c32b0:decide (0≤x15_1)=true:=decide_eq_true c32
     clear c32
     by_cases c33:x15_1<(x7_1.length:Int)
     ·rw [if_pos c33] at H
      have c33b0:decide (x15_1<(x7_1.length:Int))=true:=decide_eq_true c33
      clear c33
      obtain ⟨ji34,hji34⟩:∃ j_:Int,(Int.tmod x15_1 16)=j_:=⟨_,rfl⟩
      replace H:(if 0≤(ji34) then (if (ji34)<(x8_1.length:Int) then (impl_streamed.l0 k1 l1 (x7_1.set (x15_1:Int).toNat (Go.bits .xor .u8 (rd x7_1 x15_1) (rd x8_1 (ji34)))) x8_1 (y521.length:Int) (wrap64 (x15_1+1)) l0_0 l0_1 l0_2 l0_3) else (none)) else (none))=some r:=by first|(rw [hji34] at H;exact H)|(simp only [hji34] at H ⊢;exact H)
      (try rw [hji34] at c11b0)
      (try rw [hji34] at c11b1)
      by_cases c35:0≤(ji34)
      ·rw [if_pos c35] at H
       have c35b0:decide (0≤(ji34))=true:=decide_eq_true c35
       clear c35
       by_cases c36:(ji34)<(x8_1.length:Int)
       ·rw [if_pos c36] at H
        have c36b0:decide ((ji34)<(x8_1.length:Int))=true:=decide_eq_true c36
        clear c36
        obtain ⟨y541,hy541⟩:∃ y_:List Int,y_=(x7_1.set (x15_1:Int).toNat (Go.bits .xor .u8 (rd x7_1 x15_1) (rd x8_1 (ji34)))):=⟨_,rfl⟩
        replace H:(impl_streamed.l0 k1 l1 y541 x8_1 (y521.length:Int) (wrap64 (x15_1+1)) l0_0 l0_1 l0_2 l0_3)=some r:=by first|(rw [hy541];with_reducible exact H)|(have H2_:=(Option.bind_some _ _).symm.trans H;rw [hy541];with_reducible exact H2_)|(have H2_:=(Option.bind_some _ _).symm.trans H;with_reducible exact H2_)|with_reducible exact H|(rw [hy541];exact H)|exact H
        have Ny541:=qm hy541
        clear hy541
        have H' :=qm H
        clear H
        try go_wp2
        have _:=qm (qd HO_7.out)
        have _:=qm (qd HO_8.out)
        have _:=qm (qn BK517.out)
        have _:=qm (qj HB.out)
        clear HO_7 HO_8 BK517 HB
        rename_i HO_7 HO_8 BK517 HB
        have p539:0≤(x15_1:Int):=of_decide_eq_true (by assumption)
        have q539:x15_1<(x7_1.length:Int):=of_decide_eq_true (by assumption)
        obtain ⟨ad539,e539,hx539_0⟩:=Kd.at_int (qe HO_7.out).2.2 x15_1 p539 q539
        cases e539
        replace p539:=eq_true p539
        replace q539:=eq_true q539
        obtain ⟨Ao39,co39,eo39⟩:=Kd.R_slice HO_8.out
        (first|subst eo39|(injection eo39 with f1_ f2_ f3_;have f4_:=f1_.symm;have f5_:=f3_.symm;clear f1_ f2_ f3_;subst f4_;subst f5_))
        have p540:0≤((ji34):Int):=of_decide_eq_true (by assumption)
        have q540:(ji34)<(x8_1.length:Int):=of_decide_eq_true (by assumption)
        obtain ⟨ad540,e540,hx540_0⟩:=Kd.at_int (qe HO_8.out).2.2 (ji34) p540 q540
        cases e540
        replace p540:=eq_true p540
        replace q540:=eq_true q540
        have p37:0≤(x15_1:Int):=of_decide_eq_true (by assumption)
        have q37:(x15_1:Int)<((x7_1.length:Int):Int):=of_decide_eq_true (by assumption)
        obtain ⟨go37,co37,eo37,gb37,gl37,cl37,HG37⟩:=Kd.R_form HO_7.out (by omega)
        (first|cases eo37|(injection eo37 with ea_ en_ ec_;(first|subst ea_|(injection ea_ with ea_;subst ea_));subst ec_;clear en_))
        have GB37:=qm gb37
        have GG37:=qm HG37
        clear gb37 gl37 HG37
        (first|simp only [add_plain] at hx539_0|skip)
        obtain ⟨hx37_0,hf37_0⟩:=Kd.R_celln 0 HO_7.out (x15_1:Int) p37 q37
        replace p37:=eq_true p37
        replace q37:=eq_true q37
        have HP40:=Kd.R_putn HO_7.out (x15_1:Int) (Go.bits .xor .u8 (rd x7_1 x15_1) (rd x8_1 (ji34)))
        rw [←Ny541.out] at HP40
        have HQ40:=qm HP40
        clear HP40
        refine start_ (n:=12) (S:=fun w' =>w'.cell? ⟨go37,(x15_1).toNat,none⟩=some (.int .u8 (rd x7_1 x15_1))∧w'.cell? (ad540.add ((ji34)).toNat)=some (.int .u8 (rd x8_1 (ji34)))) (ds:=[11]) (bm 0 12) (by kernel_rfl) rfl rfl ⟨hx539_0,hx540_0⟩ (fun hHeld=>?_);refine with_tabW impl_streamed.tab8 impl_streamed.bits8 (fun HT_ HW_=>?_)
        generalize wr.drew=w38 at HO_7 HO_8 BK517 HB GG37 HQ40 hf37_0 hx37_0 hx539_0 hx540_0 hHeld ⊢
        refine pu 0 30 (bm 1 12) HT_ (h:=⟨_,by intro w';go_simp;with_reducible rfl,_,by simp only [Act.put,s1,s2,s3,i64_w,i32_w];rfl,?_⟩)
        refine pu 1 31 (bm 2 12) HT_ (h:=⟨_,by intro w';go_simp;with_reducible rfl,_,by simp only [Act.put,s1,s2,s3,i64_w,i32_w];rfl,?_⟩)
        refine pu 2 32 (bm 3 12) HT_ (h:=⟨_,by intro w';go_simp;with_reducible rfl,_,by simp only [Act.put,s1,s2,s3,i64_w,i32_w];rfl,?_⟩)
        refine pu 4 34 (bb 23 12) HT_ (h:=⟨_,by intro w';go_simp;with_reducible rfl,_,by simp only [Act.put,s1,s2,s3,i64_w,i32_w];rfl,?_⟩)
        refine pu 5 35 (bb 55 12) HT_ (h:=⟨_,by intro w';go_simp;with_reducible rfl,_,by simp only [Act.put,s1,s2,s3,i64_w,i32_w];rfl,?_⟩)
        refine pu 6 36 (bb 119 12) HT_ (h:=⟨_,by intro w';go_simp;with_reducible rfl,_,by simp only [Act.put,s1,s2,s3,i64_w,i32_w];rfl,?_⟩)
        refine pu 7 37 (bb 247 12) HT_ (h:=⟨_,by intro w';go_simp;with_reducible rfl,_,by simp only [Act.put,s1,s2,s3,i64_w,i32_w];rfl,?_⟩)
        refine tk 3 33 (bm 8 12) HT_ HW_ (hS:=hHeld) (h:=⟨_,by rintro w' ⟨s0,s1⟩;go_simp;with_reducible rfl,_,by simp only [Act.put,s1,s2,s3,i64_w,i32_w];rfl,?_⟩)
        refine tk 8 38 (bm 9 12) HT_ HW_ (hS:=hHeld) (h:=⟨_,by rintro w' ⟨s0,s1⟩;go_simp;with_reducible rfl,_,by simp only [Act.put,s1,s2,s3,i64_w,i32_w];rfl,?_⟩)
        refine pu 9 39 (bm 10 12) HT_ (h:=⟨_,by intro w';go_simp;with_reducible rfl,_,by simp only [Act.put,s1,s2,s3,i64_w,i32_w];rfl,?_⟩)
        refine pu 10 40 (bm 11 12) HT_ (h:=⟨_,by intro w';go_simp;with_reducible rfl,_,by simp only [Act.put,s1,s2,s3,i64_w,i32_w];rfl,?_⟩)
        refine last_ (i:=11) (N:=none) (bm 12 12) rfl rfl (one_of HT_.out (by kernel_rfl)) (by decide) (fun K hK=>?_)
        refine skip_ (w1:=?_) (by rfl) rfl ?_ ?_
        rotate_left
        ·go_simp
         rfl
        refine hK.out _ _ ?_
        clear hK K
        refine done_ (done_of HT_.out (by kernel_rfl)) ?_
        try go_wp2
        (try simp only [←hl7_1])
        go_roundg k1
        case measure=>have:=HK1.out;omega
        case rel=>exact ⟨(y541),(x8_1),(wrap64 (x15_1+1)),(by first|rfl|(simp;done)|(simp [*];done)),H',⟨by have:=HK1.out;omega⟩,⟨by (try simp only [hl7_1]);(with_reducible repeat (first|apply qb|apply qc|apply qd));exact HQ40.out⟩,⟨by (try simp only [hl7_1]);(with_reducible repeat (first|apply qb|apply qc|apply qd));exact qg (Kd.R_far (p:=⟨go37,(x15_1:Int).toNat,none⟩) (qg HO_8.out (fun k_ hk=>(⟨hk,fun e_=>hk (by rw [e_];rfl)⟩:_∧k_≠go37))) (fun _ hk=>hk.2) (.int .u8 (Go.bits .xor .u8 (rd x7_1 x15_1) (rd x8_1 (ji34))))) (fun _ hk=>hk.1)⟩,⟨by (try simp only [hl7_1]);(with_reducible repeat (first|refine blk_drewN ?_ _|refine qn ?_|refine blk_alloc ?_ _));refine blk_far ?_ (by have h_:=Kd.R_ne HO_7.out BK517.out (by decide);intro e_;exact h_ (by rw [e_];rfl)) _;(with_reducible repeat (first|refine blk_drewN ?_ _|refine qn ?_|refine blk_alloc ?_ _));exact BK517.out⟩,⟨by repeat (first|(with_reducible first|exact HB.out|apply below_alloc|apply qi|apply qj|refine qk ?_ GB37.out|refine qk ?_ GE517.out)|exact HB.out)⟩⟩
       rw [if_neg c36] at H
       exact absurd H (by simp)
      rw [if_neg c35] at H
      exact absurd H (by simp)
     rw [if_neg c33] at H
     exact absurd H (by simp)
    rw [if_neg c32] at H
    exact absurd H (by simp)
   rw [if_neg c10] at H
   have c10b0:decide (x15_1<(y521.length:Int))=false:=decide_eq_false c10
   have c10b9:decide (x15_1<(x7_1.length:Int))=false:=by first|(rw [←hl7_1];exact c10b0)|exact c10b0
   clear c10
   obtain rfl:=Option.some.inj H
   go_wp2
   go_ret
   exact ⟨_,by first|rfl|(simp <;> rfl)|(simp [*] <;> rfl),by (with_reducible repeat (first|apply qb|apply qc|apply qd));exact qg HO_7.out (fun _ hk=>trivial),HB.out⟩
 rw [if_neg c4] at H
 exact absurd H (by simp)
end Go.Proofs.Ytcdkbdkanjifeaa.SFnExactProtectPacket
