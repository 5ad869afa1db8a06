/- The walk of functions that the law FnExactProtectPacket uses, written by program. -/
import Derived.Test.YtcdkbdkanjifeaaSFnExactProtectPacketx0
import Derived.Test.YtcdkbdkanjifeaaSteps2
import Derived.Test.YtcdkbdkanjifeaaSteps3
namespace Go.Proofs.Ytcdkbdkanjifeaa.SFnExactProtectPacket
open Go.Proofs.Ytcdkbdkanjifeaa.Steps3 Go.Proofs.Ytcdkbdkanjifeaa.Steps2 Go.RowKit Go.Proofs.YtcdkbdkanjifeaaW.PrintWords Go.Proofs.YtcdkbdkanjifeaaW.PrintLast Go.Proofs.YtcdkbdkanjifeaaW.PrintMore
open Go.Proofs.YtcdkbdkanjifeaaW.PrintWords renaming below_alloc → qh, pw_below_drewN → qi, below_drew1 → qj, below_set → qk, blk_drewN → ql, blk_drew → qn, blk_alloc → qo, blk_put → qp, blk_far → qr, below_size → qs, below_step → qt, blk_below → qv
open Go.Proofs.YtcdkbdkanjifeaaW.PrintWords.Kd renaming R_far → qa, R_alloc → qb, R_drewN → qc, R_drew → qd, R_below → qf, R_mono → qg
open Go.Proofs.YtcdkbdkanjifeaaW.PrintWords.Aside0 renaming mk → qm
attribute [local go_sem] max2_int min2_int max_two min_two max_three min_three max_four min_four 
set_option linter.unusedVariables false
set_option linter.unusedSimpArgs false
def laws_toByteS.l0:Nat→List Int→List Int→Int→Option (List Int)
 |0,_,_,_=>none
 |k+1,x0,x3,x4=>if x4<(x0.length:Int) then (if 0≤x4 then (if x4<(x3.length:Int) then (laws_toByteS.l0 k x0 (x3.set (x4:Int).toNat (rd x0 x4)) (wrap64 (x4+1))) else (none)) else (none)) else (some x3)
def laws_toByteS.f (k:Nat) (l0:List Int):Option (List Int):=if 0≤(l0.length:Int) then (if ((l0.length:Int):Int).toNat≤281474976710656 then (laws_toByteS.l0 k l0 (List.replicate ((l0.length:Int):Int).toNat 0) 0) else (none)) else (none)
set_option maxHeartbeats 8000000 in
set_option maxRecDepth 100000 in
theorem laws_toByteS.calls (k:Nat) (A0:Option Addr) (c0:Nat) (l0:List Int) (r:List Int) (w:World) (hr0:Kd.C (Kd.int .u8) w A0 l0.length l0) (hc0:l0.length≤c0) (h:laws_toByteS.f k l0=some r) :
  Calls Try.prog 15 #[.slice A0 l0.length c0] w fun e w' =>∃ v0_:Value,e = .returned (v0_)∧Kd.R (Kd.int .u8) 5 w' w.heap.size (fun _=>True) v0_ r∧Below w.heap.size w w' :=by
 have HR0:=qm hr0
 have HC0:=qm hc0
 clear hr0 hc0
 have HB:=qm (Below.refl w.heap.size w)
 have H:(if 0≤(l0.length:Int) then (if ((l0.length:Int):Int).toNat≤281474976710656 then (laws_toByteS.l0 k l0 (List.replicate ((l0.length:Int):Int).toNat 0) 0) else (none)) else (none))=some r:=h
 clear h
 by_cases c2:0≤(l0.length:Int)
 ·rw [if_pos c2] at H
  have c2b0:=eq_true c2
  have c2b1:decide (0≤(l0.length:Int))=true:=decide_eq_true c2
  clear c2
  by_cases c3:((l0.length:Int):Int).toNat≤281474976710656
  ·rw [if_pos c3] at H
   have c3b0:=eq_true c3
   have c3b1:decide (((l0.length:Int):Int).toNat≤281474976710656)=true:=decide_eq_true c3
   clear c3
   obtain ⟨y101,hy101⟩:∃ y_:List Int,y_=(List.replicate ((l0.length:Int):Int).toNat 0):=⟨_,rfl⟩
   replace H:(laws_toByteS.l0 k l0 y101 0)=some r:=by first|(rw [hy101];with_reducible exact H)|(have H2_:=(Option.bind_some _ _).symm.trans H;rw [hy101];with_reducible exact H2_)|(have H2_:=(Option.bind_some _ _).symm.trans H;with_reducible exact H2_)|with_reducible exact H|(rw [hy101];exact H)|exact H
   have Ny101:=qm hy101
   clear hy101
   have H' :=qm H
   clear H
   go_enter Try.func15,Try.ntmps15
   go_wp2_with (first|((with_reducible refine gate_dst (N:=7) rfl ?_);refine Kd.R_make (Kd.int .u8) _ 5 rfl (N:=7) rfl 22 _ _ rfl (l0.length:Int) rfl rfl Try.underlying22 (.int .u8 0) 1 info5 rfl (by decide) (by omega) 0 (ok:=fun _=>True) (okp:=fun _=>True) rfl (fun _ hk=>hk) trivial (of_decide_eq_true (by assumption)) (Nat.le_trans (Nat.mul_le_mul_right _ (of_decide_eq_true (by assumption):(l0.length:Int).toNat≤281474976710656)) (by omega)) (Below.refl _ _) (Nat.le_refl _) ?_;intro v102 w4 ho5 hb hg_ hnew_;clear hg_ hnew_;(first|rw [←Ny101.out] at ho5|(simp only [Int.reduceToNat] at ho5;rw [←Ny101.out] at ho5));have _:=qm (Kd.R_lower ho5 (qs HB.out));have _:=qm (qt HB.out hb);clear HB;rename_i HO103 HB;clear hb ho5))
   go_loopg [4] k (fun kq v4 w' =>∃ (x3_1:List Int) (x4_1:Int),v4 = .int .i64 x4_1∧Aside0 (laws_toByteS.l0 kq l0 x3_1 x4_1=some r)∧Aside0 (kq≤k)∧Aside0 (Kd.R (Kd.int .u8) 5 w' w.heap.size (fun _=>True) v102 x3_1)∧Aside0 (Below w.heap.size w w'))
   case atStart=>exact ⟨(y101),(0),(by first|rfl|(simp;done)|(simp [*];done)),H',⟨Nat.le_refl _⟩,⟨HO103.out⟩,⟨HB.out⟩⟩
   case round=>
    clear H'
    try clear c2
    try clear c2b0
    try clear c2b1
    try clear c3
    try clear c3b0
    try clear c3b1
    obtain ⟨x3_1,x4_1,rfl,HA,HK1,HO_3,HB⟩:=hrel
    cases gk with
    |zero=>exact absurd HA.out (by simp [laws_toByteS.l0])
    |succ k1=>?_
    have H:=HA.out
    clear HA
    simp only [laws_toByteS.l0] at H
    by_cases c6:x4_1<(l0.length:Int)
    ·rw [if_pos c6] at H
     have c6b0:decide (x4_1<(l0.length:Int))=true:=decide_eq_true c6
     clear c6
     by_cases c7:0≤x4_1
     ·rw [if_pos c7] at H
      have c7b0:decide (0≤x4_1)=true:=decide_eq_true c7
      clear c7
      by_cases c8:x4_1<(x3_1.length:Int)
      ·rw [if_pos c8] at H
       have c8b0:decide (x4_1<(x3_1.length:Int))=true:=decide_eq_true c8
       clear c8
       obtain ⟨y105,hy105⟩:∃ y_:List Int,y_=(x3_1.set (x4_1:Int).toNat (rd l0 x4_1)):=⟨_,rfl⟩
       replace H:(laws_toByteS.l0 k1 l0 y105 (wrap64 (x4_1+1)))=some r:=by first|(rw [hy105];with_reducible exact H)|(have H2_:=(Option.bind_some _ _).symm.trans H;rw [hy105];with_reducible exact H2_)|(have H2_:=(Option.bind_some _ _).symm.trans H;with_reducible exact H2_)|with_reducible exact H|(rw [hy105];exact H)|exact H
       have Ny105:=qm hy105
       clear hy105
       have H' :=qm H
       clear H
       have p104:0≤(x4_1:Int):=of_decide_eq_true (by assumption)
       have q104:x4_1<(l0.length:Int):=of_decide_eq_true (by assumption)
       obtain ⟨ad104,e104,hx104_0⟩:=Kd.at_int HR0.out x4_1 p104 q104
       cases e104
       replace hx104_0:=(HB.out.cell (World.block_lt_of_cell? w _ hx104_0)).trans hx104_0
       replace p104:=eq_true p104
       replace q104:=eq_true q104
       have p9:0≤(x4_1:Int):=of_decide_eq_true (by assumption)
       have q9:(x4_1:Int)<((x3_1.length:Int):Int):=of_decide_eq_true (by assumption)
       obtain ⟨go9,co9,eo9,gb9,gl9,cl9,HG9⟩:=Kd.R_form HO_3.out (by omega)
       (first|cases eo9|(injection eo9 with ea_ en_ ec_;(first|subst ea_|(injection ea_ with ea_;subst ea_));subst ec_;clear en_))
       have GB9:=qm gb9
       have GG9:=qm HG9
       clear gb9 gl9 HG9
       obtain ⟨hx9_0,hf9_0⟩:=Kd.R_celln 0 HO_3.out (x4_1:Int) p9 q9
       replace p9:=eq_true p9
       replace q9:=eq_true q9
       have HP10:=Kd.R_putg HO_3.out (x4_1:Int) (rd l0 x4_1)
       go_wp2_with (first|((with_reducible refine gate_store (t:=5) (p:=20) rfl ?_);refine store_event (t:=5) (p:=20) (v:=?vo_w11) (w1:=(wr.setCell ⟨go9,(x4_1:Int).toNat,none⟩ (.int .u8 (rd l0 x4_1)))) ?hg ?ho ?hn ?hr ?_;(case ho=>rfl);(case hg=>rfl);(case hn=>rfl);(case hr=>first|(go_simp;done)|(go_simp;rfl));intro w11 hw;have hg:wr.grownBy w11 (some go9):=(by rw [hw];exact HP10.2);have hp_:Kd.R (Kd.int .u8) 5 w11 w.heap.size (fun _=>True) (.slice (some ⟨go9,0,none⟩) x3_1.length co9) y105:=(by rw [hw,Ny105.out];exact HP10.1);clear HP10;have _:=qm (hp_);have _:=qm ((by rw [hw];exact qk (HB.out) GB9.out:Below w.heap.size w w11));clear HO_3 HB;rename_i HO_3 HB;clear hg hw hp_))
       go_roundg k1
       case measure=>have:=HK1.out;omega
       case rel=>exact ⟨(y105),(wrap64 (x4_1+1)),rfl,H',⟨by have:=HK1.out;omega⟩,⟨HO_3.out⟩,⟨HB.out⟩⟩
      rw [if_neg c8] at H
      exact absurd H (by simp)
     rw [if_neg c7] at H
     exact absurd H (by simp)
    rw [if_neg c6] at H
    have c6b0:decide (x4_1<(l0.length:Int))=false:=decide_eq_false c6
    clear c6
    obtain rfl:=Option.some.inj H
    go_wp2
    go_ret
    exact ⟨_,by first|rfl|(simp <;> rfl)|(simp [*] <;> rfl),HO_3.out,HB.out⟩
  rw [if_neg c3] at H
  exact absurd H (by simp)
 rw [if_neg c2] at H
 exact absurd H (by simp)
def laws_eqByteS.l0:Nat→List Int→List Int→Int→Option (Bool)
 |0,_,_,_=>none
 |k+1,x0,x1,x5=>if x5<(x0.length:Int) then (if 0≤x5 then (if x5<(x1.length:Int) then (if (rd x0 x5)=(rd x1 x5) then (laws_eqByteS.l0 k x0 x1 (wrap64 (x5+1))) else (some false)) else (none)) else (none)) else (some true)
def laws_eqByteS.f (k:Nat) (l0:List Int) (l1:List Int):Option (Bool):=if (l0.length:Int)=(l1.length:Int) then (laws_eqByteS.l0 k l0 l1 0) else (some false)
set_option maxHeartbeats 8000000 in
set_option maxRecDepth 100000 in
theorem laws_eqByteS.calls (k:Nat) (A0:Option Addr) (c0:Nat) (l0:List Int) (A1:Option Addr) (c1:Nat) (l1:List Int) (r:Bool) (w:World) (hr0:Kd.C (Kd.int .u8) w A0 l0.length l0) (hc0:l0.length≤c0) (hr1:Kd.C (Kd.int .u8) w A1 l1.length l1) (hc1:l1.length≤c1) (h:laws_eqByteS.f k l0 l1=some r) :
  Calls Try.prog 17 #[.slice A0 l0.length c0, .slice A1 l1.length c1] w fun e w' =>e = .returned (.bool r)∧Drawn0 w w' :=by
 have HR0:=qm hr0
 have HC0:=qm hc0
 clear hr0 hc0
 have HR1:=qm hr1
 have HC1:=qm hc1
 clear hr1 hc1
 have H:(if (l0.length:Int)=(l1.length:Int) then (laws_eqByteS.l0 k l0 l1 0) else (some false))=some r:=h
 clear h
 by_cases c3:(l0.length:Int)=(l1.length:Int)
 ·rw [if_pos c3] at H
  have c3b0:((l0.length:Int) == (l1.length:Int))=true:=beq_iff_eq.mpr c3
  have c3b1:((l0.length:Int) != (l1.length:Int))=false:=bne_eq_false_iff_eq.mpr c3
  have c3b2:(l0.length == l1.length)=true:=by first|simpa using c3|(simp at c3 ⊢;omega)
  clear c3
  have H' :=qm H
  clear H
  go_enter Try.func17,Try.ntmps17
  go_wp2
  repeat (go_quiet (fail);try go_wp2)
  go_loopg [5] k (fun kq v5 w' =>∃ (x5_1:Int),v5 = .int .i64 x5_1∧Aside0 (laws_eqByteS.l0 kq l0 l1 x5_1=some r)∧Aside0 (kq≤k)∧Drawn0 w w')
  case atStart=>exact ⟨(0),(by first|rfl|(simp;done)|(simp [*];done)),H',⟨Nat.le_refl _⟩,by repeat (first|exact Drawn0.refl _|apply Drawn0.step)⟩
  case round=>
   clear H'
   try clear c1
   try clear c3
   try clear c3b0
   try clear c3b1
   try clear c3b2
   obtain ⟨x5_1,rfl,HA,HK1,⟨m1,rfl⟩⟩:=hrel
   cases gk with
   |zero=>exact absurd HA.out (by simp [laws_eqByteS.l0])
   |succ k1=>?_
   have H:=HA.out
   clear HA
   simp only [laws_eqByteS.l0] at H
   by_cases c4:x5_1<(l0.length:Int)
   ·rw [if_pos c4] at H
    have c4b0:decide (x5_1<(l0.length:Int))=true:=decide_eq_true c4
    clear c4
    by_cases c5:0≤x5_1
    ·rw [if_pos c5] at H
     have c5b0:decide (0≤x5_1)=true:=decide_eq_true c5
     clear c5
     by_cases c6:x5_1<(l1.length:Int)
     ·rw [if_pos c6] at H
      have c6b0:decide (x5_1<(l1.length:Int))=true:=decide_eq_true c6
      clear c6
      by_cases c7:(rd l0 x5_1)=(rd l1 x5_1)
      ·rw [if_pos c7] at H
       have c7b0:((rd l0 x5_1) == (rd l1 x5_1))=true:=beq_iff_eq.mpr c7
       have c7b1:((rd l0 x5_1) != (rd l1 x5_1))=false:=bne_eq_false_iff_eq.mpr c7
       clear c7
       have H' :=qm H
       clear H
       have p106:0≤(x5_1:Int):=of_decide_eq_true (by assumption)
       have q106:x5_1<(l0.length:Int):=of_decide_eq_true (by assumption)
       obtain ⟨ad106,e106,hx106_0⟩:=Kd.at_int HR0.out x5_1 p106 q106
       cases e106
       replace p106:=eq_true p106
       replace q106:=eq_true q106
       have p107:0≤(x5_1:Int):=of_decide_eq_true (by assumption)
       have q107:x5_1<(l1.length:Int):=of_decide_eq_true (by assumption)
       obtain ⟨ad107,e107,hx107_0⟩:=Kd.at_int HR1.out x5_1 p107 q107
       cases e107
       replace p107:=eq_true p107
       replace q107:=eq_true q107
       go_wp2
       repeat (go_quiet (fail);try go_wp2)
       go_roundg k1
       case measure=>have:=HK1.out;omega
       case rel=>exact ⟨(wrap64 (x5_1+1)),rfl,H',⟨by have:=HK1.out;omega⟩,by repeat (first|exact Drawn0.refl _|apply Drawn0.step)⟩
      rw [if_neg c7] at H
      have c7b0:((rd l0 x5_1) == (rd l1 x5_1))=false:=beq_eq_false_iff_ne.mpr c7
      have c7b1:((rd l0 x5_1) != (rd l1 x5_1))=true:=bne_iff_ne.mpr c7
      obtain rfl:=Option.some.inj H
      have p106:0≤(x5_1:Int):=of_decide_eq_true (by assumption)
      have q106:x5_1<(l0.length:Int):=of_decide_eq_true (by assumption)
      obtain ⟨ad106,e106,hx106_0⟩:=Kd.at_int HR0.out x5_1 p106 q106
      cases e106
      replace p106:=eq_true p106
      replace q106:=eq_true q106
      have p107:0≤(x5_1:Int):=of_decide_eq_true (by assumption)
      have q107:x5_1<(l1.length:Int):=of_decide_eq_true (by assumption)
      obtain ⟨ad107,e107,hx107_0⟩:=Kd.at_int HR1.out x5_1 p107 q107
      cases e107
      replace p107:=eq_true p107
      replace q107:=eq_true q107
      go_wp2
      repeat (go_quiet (fail);try go_wp2)
      go_ret
      exact ⟨by first|rfl|(simp;done)|(simp [*];done),by repeat (first|exact Drawn0.refl _|apply Drawn0.step)⟩
     rw [if_neg c6] at H
     exact absurd H (by simp)
    rw [if_neg c5] at H
    exact absurd H (by simp)
   rw [if_neg c4] at H
   have c4b0:decide (x5_1<(l0.length:Int))=false:=decide_eq_false c4
   clear c4
   obtain rfl:=Option.some.inj H
   go_wp2
   repeat (go_quiet (fail);try go_wp2)
   go_ret
   exact ⟨by first|rfl|(simp;done)|(simp [*];done),by repeat (first|exact Drawn0.refl _|apply Drawn0.step)⟩
 rw [if_neg c3] at H
 have c3b0:((l0.length:Int) == (l1.length:Int))=false:=beq_eq_false_iff_ne.mpr c3
 have c3b1:((l0.length:Int) != (l1.length:Int))=true:=bne_iff_ne.mpr c3
 have c3b2:(l0.length == l1.length)=false:=by first|simpa using c3|(simp at c3 ⊢;omega)
 obtain rfl:=Option.some.inj H
 go_enter Try.func17,Try.ntmps17
 go_wp2
 repeat (go_quiet (fail);try go_wp2)
 go_ret
 exact ⟨by first|rfl|(simp;done)|(simp [*];done),by repeat (first|exact Drawn0.refl _|apply Drawn0.step)⟩
def laws_markByteS.l0:Nat→List Int→Int→Int→Option (Int×List Int)
 |0,_,_,_=>none
 |k+1,x0,x1,x5=>if x5<(x0.length:Int) then (if 0≤x5 then (laws_markByteS.l0 k (x0.set (x5:Int).toNat ((x1)%256)) (wrap64 (x1+1)) (wrap64 (x5+1))) else (none)) else (some (x1,x0))
def laws_markByteS.f (k:Nat) (l0:List Int) (a1:Int):Option (Int×List Int):=laws_markByteS.l0 k l0 a1 0
set_option maxHeartbeats 8000000 in
set_option maxRecDepth 100000 in
theorem laws_markByteS.calls (k:Nat) (P0_:Nat→Prop) (u9000_:Value) (l0:List Int) (a1:Int) (r1:Int) (r2:List Int) (w0 w:World) (hB:Below w0.heap.size w0 w) (ho0:Kd.R (Kd.int .u8) 5 w w0.heap.size P0_ u9000_ l0) (h:laws_markByteS.f k l0 a1=some (r1,r2)) :
  Calls Try.prog 18 #[u9000_, .int .i64 a1] w fun e w' =>e = .returned (.int .i64 r1)∧Kd.R (Kd.int .u8) 5 w' w0.heap.size (fun k_=>(P0_ k_∨w.heap.size≤k_)) u9000_ r2∧Below w0.heap.size w0 w' ∧Kept w w' (fun k_=>P0_ k_):=by
 have HO0:=qm (show Kd.R (Kd.int .u8) 5 w w0.heap.size (fun k_=>(P0_ k_∨w.heap.size≤k_)) u9000_ l0 from qg ho0 (fun k_ hk=>(.inl hk)))
 have HK:=qm (Kept.refl w (fun k_=>P0_ k_))
 have HW0:=qm hB.size
 have HB:=qm hB
 clear hB
 have H:(laws_markByteS.l0 k l0 a1 0)=some (r1,r2):=h
 clear h
 have H' :=qm H
 clear H
 go_enter Try.func18,Try.ntmps18
 go_wp2
 go_loopg [1,5] k (fun kq v1 v5 w' =>∃ (x0_1:List Int) (x1_1:Int) (x5_1:Int),v1 = .int .i64 x1_1∧v5 = .int .i64 x5_1∧Aside0 (laws_markByteS.l0 kq x0_1 x1_1 x5_1=some (r1,r2))∧Aside0 (kq≤k)∧Aside0 (Kd.R (Kd.int .u8) 5 w' w0.heap.size (fun k_=>(P0_ k_∨w.heap.size≤k_)) u9000_ x0_1)∧Aside0 (Kept w w' (fun k_=>P0_ k_))∧Aside0 (Below w0.heap.size w0 w'))
 case atStart=>exact ⟨(l0),(a1),(0),(by first|rfl|(simp;done)|(simp [*];done)),(by first|rfl|(simp;done)|(simp [*];done)),H',⟨Nat.le_refl _⟩,⟨HO0.out⟩,⟨by repeat (first|(with_reducible first|exact HK.out|apply Kept.alloc|apply Kept.drewN|apply Kept.drew)|exact HK.out)⟩,⟨HB.out⟩⟩
 case round=>
  clear H'
  obtain ⟨x0_1,x1_1,x5_1,rfl,rfl,HA,HK1,HO_0,HK,HB⟩:=hrel
  cases gk with
  |zero=>exact absurd HA.out (by simp [laws_markByteS.l0])
  |succ k1=>?_
  have H:=HA.out
  clear HA
  simp only [laws_markByteS.l0] at H
  by_cases c3:x5_1<(x0_1.length:Int)
  ·rw [if_pos c3] at H
   have c3b0:decide (x5_1<(x0_1.length:Int))=true:=decide_eq_true c3
   clear c3
   by_cases c4:0≤x5_1
   ·rw [if_pos c4] at H
    have c4b0:decide (0≤x5_1)=true:=decide_eq_true c4
    clear c4
    obtain ⟨y108,hy108⟩:∃ y_:List Int,y_=(x0_1.set (x5_1:Int).toNat ((x1_1)%256)):=⟨_,rfl⟩
    replace H:(laws_markByteS.l0 k1 y108 (wrap64 (x1_1+1)) (wrap64 (x5_1+1)))=some (r1,r2):=by first|(rw [hy108];with_reducible exact H)|(have H2_:=(Option.bind_some _ _).symm.trans H;rw [hy108];with_reducible exact H2_)|(have H2_:=(Option.bind_some _ _).symm.trans H;with_reducible exact H2_)|with_reducible exact H|(rw [hy108];exact H)|exact H
    have Ny108:=qm hy108
    clear hy108
    have H' :=qm H
    clear H
    obtain ⟨Ao6,co6,eo6⟩:=Kd.R_slice HO_0.out
    subst eo6
    have p5:0≤(x5_1:Int):=of_decide_eq_true (by assumption)
    have q5:(x5_1:Int)<((x0_1.length:Int):Int):=of_decide_eq_true (by assumption)
    obtain ⟨go5,co5,eo5,gb5,gl5,cl5,HG5⟩:=Kd.R_form HO_0.out (by omega)
    (first|cases eo5|(injection eo5 with ea_ en_ ec_;(first|subst ea_|(injection ea_ with ea_;subst ea_));subst ec_;clear en_))
    have GB5:=qm gb5
    have GG5:=qm HG5
    clear gb5 gl5 HG5
    have HMgo5:=qm (show (P0_ go5∨w.heap.size≤go5) from (HO_0.out.1 _ rfl))
    obtain ⟨hx5_0,hf5_0⟩:=Kd.R_celln 0 HO_0.out (x5_1:Int) p5 q5
    replace p5:=eq_true p5
    replace q5:=eq_true q5
    have HP7:=Kd.R_putg HO_0.out (x5_1:Int) ((x1_1)%256)
    go_wp2_with (first|((with_reducible refine gate_store (t:=5) (p:=16) rfl ?_);refine store_event (t:=5) (p:=16) (v:=?vo_w8) (w1:=(wr.setCell ⟨go5,(x5_1:Int).toNat,none⟩ (.int .u8 ((x1_1)%256)))) ?hg ?ho ?hn ?hr ?_;(case ho=>rfl);(case hg=>rfl);(case hn=>rfl);(case hr=>first|(go_simp;done)|(go_simp;rfl));intro w8 hw;have hg:wr.grownBy w8 (some go5):=(by rw [hw];exact HP7.2);have hp_:Kd.R (Kd.int .u8) 5 w8 w0.heap.size (fun k_=>(P0_ k_∨w.heap.size≤k_)) (.slice (some ⟨go5,0,none⟩) x0_1.length co6) y108:=(by rw [hw,Ny108.out];exact HP7.1);clear HP7;have _:=qm (hp_);have _:=qm ((by rw [hw];exact qk (HB.out) GB5.out:Below w0.heap.size w0 w8));have _:=qm (Kept.of_grown (S:=(fun k_=>P0_ k_)) hg (by repeat (first|(with_reducible first|exact HK.out|apply Kept.alloc|apply Kept.drewN|apply Kept.drew)|exact HK.out)) (fun k_ e_=>(HO_0.out.1 k_ e_)));clear HO_0 HB HK;rename_i HO_0 HB HK;clear hg hw hp_))
    go_roundg k1
    case measure=>have:=HK1.out;omega
    case rel=>exact ⟨(y108),(wrap64 (x1_1+1)),(wrap64 (x5_1+1)),rfl,rfl,H',⟨by have:=HK1.out;omega⟩,⟨HO_0.out⟩,⟨by repeat (first|(with_reducible first|exact HK.out|apply Kept.alloc|apply Kept.drewN|apply Kept.drew)|exact HK.out)⟩,⟨HB.out⟩⟩
   rw [if_neg c4] at H
   exact absurd H (by simp)
  rw [if_neg c3] at H
  have c3b0:decide (x5_1<(x0_1.length:Int))=false:=decide_eq_false c3
  clear c3
  simp only [Option.some.injEq,Prod.mk.injEq] at H
  obtain ⟨rfl,rfl⟩:=H
  obtain ⟨Ao9,co9,eo9⟩:=Kd.R_slice HO_0.out
  subst eo9
  go_wp2
  go_ret
  exact ⟨by first|rfl|(simp <;> rfl)|(simp [*] <;> rfl),HO_0.out,by repeat (first|(with_reducible first|exact HB.out|apply qh|apply qi|apply qj)|exact HB.out),by repeat (first|(with_reducible first|exact HK.out|apply Kept.alloc|apply Kept.drewN|apply Kept.drew)|exact HK.out)⟩
def laws_heldByteS.l0:Nat→List Int→Int→Int→Option (Int)
 |0,_,_,_=>none
 |k+1,x0,x1,x5=>if x5<(x0.length:Int) then (if 0≤x5 then (if (rd x0 x5)=((x1)%256) then (laws_heldByteS.l0 k x0 (wrap64 (x1+1)) (wrap64 (x5+1))) else (some (-1))) else (none)) else (some x1)
def laws_heldByteS.f (k:Nat) (l0:List Int) (a1:Int):Option (Int):=laws_heldByteS.l0 k l0 a1 0
set_option maxHeartbeats 8000000 in
set_option maxRecDepth 100000 in
theorem laws_heldByteS.calls (k:Nat) (A0:Option Addr) (c0:Nat) (l0:List Int) (a1:Int) (r:Int) (w:World) (hr0:Kd.C (Kd.int .u8) w A0 l0.length l0) (hc0:l0.length≤c0) (h:laws_heldByteS.f k l0 a1=some r) :
  Calls Try.prog 19 #[.slice A0 l0.length c0, .int .i64 a1] w fun e w' =>e = .returned (.int .i64 r)∧Drawn0 w w' :=by
 have HR0:=qm hr0
 have HC0:=qm hc0
 clear hr0 hc0
 have H:(laws_heldByteS.l0 k l0 a1 0)=some r:=h
 clear h
 have H' :=qm H
 clear H
 go_enter Try.func19,Try.ntmps19
 go_wp2
 go_loopg [1,5] k (fun kq v1 v5 w' =>∃ (x1_1:Int) (x5_1:Int),v1 = .int .i64 x1_1∧v5 = .int .i64 x5_1∧Aside0 (laws_heldByteS.l0 kq l0 x1_1 x5_1=some r)∧Aside0 (kq≤k)∧Drawn0 w w')
 case atStart=>exact ⟨(a1),(0),(by first|rfl|(simp;done)|(simp [*];done)),(by first|rfl|(simp;done)|(simp [*];done)),H',⟨Nat.le_refl _⟩,by repeat (first|exact Drawn0.refl _|apply Drawn0.step)⟩
 case round=>
  clear H'
  obtain ⟨x1_1,x5_1,rfl,rfl,HA,HK1,⟨m1,rfl⟩⟩:=hrel
  cases gk with
  |zero=>exact absurd HA.out (by simp [laws_heldByteS.l0])
  |succ k1=>?_
  have H:=HA.out
  clear HA
  simp only [laws_heldByteS.l0] at H
  by_cases c3:x5_1<(l0.length:Int)
  ·rw [if_pos c3] at H
   have c3b0:decide (x5_1<(l0.length:Int))=true:=decide_eq_true c3
   clear c3
   by_cases c4:0≤x5_1
   ·rw [if_pos c4] at H
    have c4b0:decide (0≤x5_1)=true:=decide_eq_true c4
    clear c4
    by_cases c5:(rd l0 x5_1)=((x1_1)%256)
    ·rw [if_pos c5] at H
     have c5b0:((rd l0 x5_1) == ((x1_1)%256))=true:=beq_iff_eq.mpr c5
     have c5b1:((rd l0 x5_1) != ((x1_1)%256))=false:=bne_eq_false_iff_eq.mpr c5
     clear c5
     have H' :=qm H
     clear H
     have p109:0≤(x5_1:Int):=of_decide_eq_true (by assumption)
     have q109:x5_1<(l0.length:Int):=of_decide_eq_true (by assumption)
     obtain ⟨ad109,e109,hx109_0⟩:=Kd.at_int HR0.out x5_1 p109 q109
     cases e109
     replace p109:=eq_true p109
     replace q109:=eq_true q109
     go_wp2
     go_roundg k1
     case measure=>have:=HK1.out;omega
     case rel=>exact ⟨(wrap64 (x1_1+1)),(wrap64 (x5_1+1)),rfl,rfl,H',⟨by have:=HK1.out;omega⟩,by repeat (first|exact Drawn0.refl _|apply Drawn0.step)⟩
    rw [if_neg c5] at H
    have c5b0:((rd l0 x5_1) == ((x1_1)%256))=false:=beq_eq_false_iff_ne.mpr c5
    have c5b1:((rd l0 x5_1) != ((x1_1)%256))=true:=bne_iff_ne.mpr c5
    obtain rfl:=Option.some.inj H
    have p109:0≤(x5_1:Int):=of_decide_eq_true (by assumption)
    have q109:x5_1<(l0.length:Int):=of_decide_eq_true (by assumption)
    obtain ⟨ad109,e109,hx109_0⟩:=Kd.at_int HR0.out x5_1 p109 q109
    cases e109
    replace p109:=eq_true p109
    replace q109:=eq_true q109
    go_wp2
    go_ret
    exact ⟨by first|rfl|(simp;done)|(simp [*];done),by repeat (first|exact Drawn0.refl _|apply Drawn0.step)⟩
   rw [if_neg c4] at H
   exact absurd H (by simp)
  rw [if_neg c3] at H
  have c3b0:decide (x5_1<(l0.length:Int))=false:=decide_eq_false c3
  clear c3
  obtain rfl:=Option.some.inj H
  go_wp2
  go_ret
  exact ⟨by first|rfl|(simp;done)|(simp [*];done),by repeat (first|exact Drawn0.refl _|apply Drawn0.step)⟩
def laws_szByteS.f (l0:List Int) (a1:Int):Option (Int):=if (wrap64 (a1 - (l0.length:Int)))<0 then (some (-1)) else (some (wrap64 (a1 - (l0.length:Int))))
set_option maxHeartbeats 8000000 in
set_option maxRecDepth 100000 in
theorem laws_szByteS.calls (A0:Option Addr) (c0:Nat) (l0:List Int) (a1:Int) (r:Int) (w:World) (hr0:Kd.C (Kd.int .u8) w A0 l0.length l0) (hc0:l0.length≤c0) (h:laws_szByteS.f l0 a1=some r) :
  Calls Try.prog 54 #[.slice A0 l0.length c0, .int .i64 a1] w fun e w' =>e = .returned (.int .i64 r)∧Drawn0 w w' :=by
 have HR0:=qm hr0
 have HC0:=qm hc0
 clear hr0 hc0
 have H:(if (wrap64 (a1 - (l0.length:Int)))<0 then (some (-1)) else (some (wrap64 (a1 - (l0.length:Int)))))=some r:=h
 clear h
 by_cases c3:(wrap64 (a1 - (l0.length:Int)))<0
 ·rw [if_pos c3] at H
  have c3b0:decide ((wrap64 (a1 - (l0.length:Int)))<0)=true:=decide_eq_true c3
  clear c3
  obtain rfl:=Option.some.inj H
  go_enter Try.func54,Try.ntmps54
  go_wp2
  go_ret
  exact ⟨by first|rfl|(simp;done)|(simp [*];done),by repeat (first|exact Drawn0.refl _|apply Drawn0.step)⟩
 rw [if_neg c3] at H
 have c3b0:decide ((wrap64 (a1 - (l0.length:Int)))<0)=false:=decide_eq_false c3
 clear c3
 obtain rfl:=Option.some.inj H
 go_enter Try.func54,Try.ntmps54
 go_wp2
 go_ret
 exact ⟨by first|rfl|(simp;done)|(simp [*];done),by repeat (first|exact Drawn0.refl _|apply Drawn0.step)⟩
def laws_szKeys.f (l0_0:List Int) (l0_1:List Int) (l0_2:List Int) (l0_3:List Int) (a1:Int):Option (Int):=(laws_szByteS.f l0_0 a1).bind fun t111=>(if t111<0 then (some (-1)) else ((laws_szByteS.f l0_1 t111).bind fun t112=>(if t112<0 then (some (-1)) else ((laws_szByteS.f l0_2 t112).bind fun t113=>(if t113<0 then (some (-1)) else ((laws_szByteS.f l0_3 t113).bind fun t114=>(if t114<0 then (some (-1)) else (some t114))))))))
set_option maxHeartbeats 8000000 in
set_option maxRecDepth 100000 in
theorem laws_szKeys.calls (A0_0:Option Addr) (c0_0:Nat) (l0_0:List Int) (A0_1:Option Addr) (c0_1:Nat) (l0_1:List Int) (A0_2:Option Addr) (c0_2:Nat) (l0_2:List Int) (A0_3:Option Addr) (c0_3:Nat) (l0_3:List Int) (a1:Int) (r:Int) (w:World) (hr0_0:Kd.C (Kd.int .u8) w A0_0 l0_0.length l0_0) (hc0_0:l0_0.length≤c0_0) (hr0_1:Kd.C (Kd.int .u8) w A0_1 l0_1.length l0_1) (hc0_1:l0_1.length≤c0_1) (hr0_2:Kd.C (Kd.int .u8) w A0_2 l0_2.length l0_2) (hc0_2:l0_2.length≤c0_2) (hr0_3:Kd.C (Kd.int .u8) w A0_3 l0_3.length l0_3) (hc0_3:l0_3.length≤c0_3) (h:laws_szKeys.f l0_0 l0_1 l0_2 l0_3 a1=some r) :
  Calls Try.prog 24 #[.agg #[.slice A0_0 l0_0.length c0_0, .slice A0_1 l0_1.length c0_1, .slice A0_2 l0_2.length c0_2, .slice A0_3 l0_3.length c0_3], .int .i64 a1] w fun e w' =>e = .returned (.int .i64 r)∧Below w.heap.size w w' :=by
 have hu30:=Try.underlying30
 have HR0_0:=qm hr0_0
 have HC0_0:=qm hc0_0
 clear hr0_0 hc0_0
 have HR0_1:=qm hr0_1
 have HC0_1:=qm hc0_1
 clear hr0_1 hc0_1
 have HR0_2:=qm hr0_2
 have HC0_2:=qm hc0_2
 clear hr0_2 hc0_2
 have HR0_3:=qm hr0_3
 have HC0_3:=qm hc0_3
 clear hr0_3 hc0_3
 have HB:=qm (Below.refl w.heap.size w)
 have H:((laws_szByteS.f l0_0 a1).bind fun t111=>(if t111<0 then (some (-1)) else ((laws_szByteS.f l0_1 t111).bind fun t112=>(if t112<0 then (some (-1)) else ((laws_szByteS.f l0_2 t112).bind fun t113=>(if t113<0 then (some (-1)) else ((laws_szByteS.f l0_3 t113).bind fun t114=>(if t114<0 then (some (-1)) else (some t114)))))))))=some r:=h
 clear h
 replace H:=Option.bind_eq_some_iff.mp H
 obtain ⟨t111,A30,H⟩:=H
 try dsimp only at H
 have A3:=qm A30
 clear A30
 by_cases c4:t111<0
 ·rw [if_pos c4] at H
  have c4b0:decide (t111<0)=true:=decide_eq_true c4
  clear c4
  obtain rfl:=Option.some.inj H
  go_enter Try.func24,Try.ntmps24
  go_wp2_with (first|((with_reducible refine gate_dst (N:=2) rfl ?_);refine box_event (by rfl) (N:=2) (by rfl) (cs:=#[.slice A0_0 l0_0.length c0_0, .slice A0_1 l0_1.length c0_1, .slice A0_2 l0_2.length c0_2, .slice A0_3 l0_3.length c0_3]) (t:=30) (by first|(go_simp;done)|(go_simp;rfl)) ?_;intro gb110 hg w5 hbox hb;have _:=qm (qt HB.out hb);have _:=qm (hbox);have _:=qm ((gs hg (qs HB.out)));have _:=qm ((gs hg (qs HB.out)));clear HB;rename_i HB BK110 GW110 GE110;clear hb hbox hg;obtain ⟨_,_,_,_,_,_,_,_⟩:=fc4 BK110.out)|((with_reducible refine gate_callee (f:=54) rfl ?_);refine goesL_ (some 8) rfl rfl Try.func54 (by kernel_rfl) rfl #[.slice A0_0 l0_0.length c0_0, .int .i64 a1] rfl (by (try simp only [m1,m2,m3]);first|done|rfl) ?_;(with_reducible refine (laws_szByteS.calls _ _ l0_0 a1 t111 _ ?side1 ?side2 A3.out).mono ?_);(case side1=>exact cb (Kd.C_below HR0_0.out HB.out));(case side2=>exact HC0_0.out);rintro e w' ⟨rfl,⟨nd,rfl⟩⟩;refine ⟨_,rfl,?_⟩))
  go_ret
  exact ⟨by first|rfl|(simp <;> rfl)|(simp [*] <;> rfl),by repeat (first|(with_reducible first|exact HB.out|apply qh|apply qi|apply qj|refine qk ?_ GE110.out)|exact HB.out)⟩
 rw [if_neg c4] at H
 have c4b0:decide (t111<0)=false:=decide_eq_false c4
 clear c4
 replace H:=Option.bind_eq_some_iff.mp H
 obtain ⟨t112,A70,H⟩:=H
 try dsimp only at H
 have A7:=qm A70
 clear A70
 by_cases c8:t112<0
 ·rw [if_pos c8] at H
  have c8b0:decide (t112<0)=true:=decide_eq_true c8
  clear c8
  obtain rfl:=Option.some.inj H
  go_enter Try.func24,Try.ntmps24
  go_wp2_with (first|((with_reducible refine gate_dst (N:=2) rfl ?_);refine box_event (by rfl) (N:=2) (by rfl) (cs:=#[.slice A0_0 l0_0.length c0_0, .slice A0_1 l0_1.length c0_1, .slice A0_2 l0_2.length c0_2, .slice A0_3 l0_3.length c0_3]) (t:=30) (by first|(go_simp;done)|(go_simp;rfl)) ?_;intro gb110 hg w9 hbox hb;have _:=qm (qt HB.out hb);have _:=qm (hbox);have _:=qm ((gs hg (qs HB.out)));have _:=qm ((gs hg (qs HB.out)));clear HB;rename_i HB BK110 GW110 GE110;clear hb hbox hg;obtain ⟨_,_,_,_,_,_,_,_⟩:=fc4 BK110.out)|((with_reducible refine gate_callee (f:=54) rfl ?_);refine goesL_ (some 8) rfl rfl Try.func54 (by kernel_rfl) rfl #[.slice A0_0 l0_0.length c0_0, .int .i64 a1] rfl (by (try simp only [m1,m2,m3]);first|done|rfl) ?_;(with_reducible refine (laws_szByteS.calls _ _ l0_0 a1 t111 _ ?side1 ?side2 A3.out).mono ?_);(case side1=>exact cb (Kd.C_below HR0_0.out HB.out));(case side2=>exact HC0_0.out);rintro e w' ⟨rfl,⟨nd,rfl⟩⟩;refine ⟨_,rfl,?_⟩)|((with_reducible refine gate_callee (f:=54) rfl ?_);refine goesL_ (some 14) rfl rfl Try.func54 (by kernel_rfl) rfl #[.slice A0_1 l0_1.length c0_1, .int .i64 t111] rfl (by (try simp only [m1,m2,m3]);first|done|rfl) ?_;(with_reducible refine (laws_szByteS.calls _ _ l0_1 t111 t112 _ ?side1 ?side2 A7.out).mono ?_);(case side1=>exact cb (Kd.C_below HR0_1.out (by repeat first|exact HB.out|apply qh|apply qi|apply qj|refine bk ?_)));(case side2=>exact HC0_1.out);rintro e w' ⟨rfl,⟨nd,rfl⟩⟩;refine ⟨_,rfl,?_⟩))
  go_ret
  exact ⟨by first|rfl|(simp <;> rfl)|(simp [*] <;> rfl),by repeat (first|(with_reducible first|exact HB.out|apply qh|apply qi|apply qj|refine qk ?_ GE110.out)|exact HB.out)⟩
 rw [if_neg c8] at H
 have c8b0:decide (t112<0)=false:=decide_eq_false c8
 clear c8
 replace H:=Option.bind_eq_some_iff.mp H
 obtain ⟨t113,A110,H⟩:=H
 try dsimp only at H
 have A11:=qm A110
 clear A110
 by_cases c12:t113<0
 ·rw [if_pos c12] at H
  have c12b0:decide (t113<0)=true:=decide_eq_true c12
  clear c12
  obtain rfl:=Option.some.inj H
  go_enter Try.func24,Try.ntmps24
  go_wp2_with (first|((with_reducible refine gate_dst (N:=2) rfl ?_);refine box_event (by rfl) (N:=2) (by rfl) (cs:=#[.slice A0_0 l0_0.length c0_0, .slice A0_1 l0_1.length c0_1, .slice A0_2 l0_2.length c0_2, .slice A0_3 l0_3.length c0_3]) (t:=30) (by first|(go_simp;done)|(go_simp;rfl)) ?_;intro gb110 hg w13 hbox hb;have _:=qm (qt HB.out hb);have _:=qm (hbox);have _:=qm ((gs hg (qs HB.out)));have _:=qm ((gs hg (qs HB.out)));clear HB;rename_i HB BK110 GW110 GE110;clear hb hbox hg;obtain ⟨_,_,_,_,_,_,_,_⟩:=fc4 BK110.out)|((with_reducible refine gate_callee (f:=54) rfl ?_);refine goesL_ (some 8) rfl rfl Try.func54 (by kernel_rfl) rfl #[.slice A0_0 l0_0.length c0_0, .int .i64 a1] rfl (by (try simp only [m1,m2,m3]);first|done|rfl) ?_;(with_reducible refine (laws_szByteS.calls _ _ l0_0 a1 t111 _ ?side1 ?side2 A3.out).mono ?_);(case side1=>exact cb (Kd.C_below HR0_0.out HB.out));(case side2=>exact HC0_0.out);rintro e w' ⟨rfl,⟨nd,rfl⟩⟩;refine ⟨_,rfl,?_⟩)|((with_reducible refine gate_callee (f:=54) rfl ?_);refine goesL_ (some 14) rfl rfl Try.func54 (by kernel_rfl) rfl #[.slice A0_1 l0_1.length c0_1, .int .i64 t111] rfl (by (try simp only [m1,m2,m3]);first|done|rfl) ?_;(with_reducible refine (laws_szByteS.calls _ _ l0_1 t111 t112 _ ?side1 ?side2 A7.out).mono ?_);(case side1=>exact cb (Kd.C_below HR0_1.out (by repeat first|exact HB.out|apply qh|apply qi|apply qj|refine bk ?_)));(case side2=>exact HC0_1.out);rintro e w' ⟨rfl,⟨nd,rfl⟩⟩;refine ⟨_,rfl,?_⟩)|((with_reducible refine gate_callee (f:=54) rfl ?_);refine goesL_ (some 20) rfl rfl Try.func54 (by kernel_rfl) rfl #[.slice A0_2 l0_2.length c0_2, .int .i64 t112] rfl (by (try simp only [m1,m2,m3]);first|done|rfl) ?_;(with_reducible refine (laws_szByteS.calls _ _ l0_2 t112 t113 _ ?side1 ?side2 A11.out).mono ?_);(case side1=>exact cb (Kd.C_below HR0_2.out (by repeat first|exact HB.out|apply qh|apply qi|apply qj|refine bk ?_)));(case side2=>exact HC0_2.out);rintro e w' ⟨rfl,⟨nd,rfl⟩⟩;refine ⟨_,rfl,?_⟩))
  go_ret
  exact ⟨by first|rfl|(simp <;> rfl)|(simp [*] <;> rfl),by repeat (first|(with_reducible first|exact HB.out|apply qh|apply qi|apply qj|refine qk ?_ GE110.out)|exact HB.out)⟩
 rw [if_neg c12] at H
 have c12b0:decide (t113<0)=false:=decide_eq_false c12
 clear c12
 replace H:=Option.bind_eq_some_iff.mp H
 obtain ⟨t114,A150,H⟩:=H
 try dsimp only at H
 have A15:=qm A150
 clear A150
 by_cases c16:t114<0
 ·rw [if_pos c16] at H
  have c16b0:decide (t114<0)=true:=decide_eq_true c16
  clear c16
  obtain rfl:=Option.some.inj H
  go_enter Try.func24,Try.ntmps24
  go_wp2_with (first|((with_reducible refine gate_dst (N:=2) rfl ?_);refine box_event (by rfl) (N:=2) (by rfl) (cs:=#[.slice A0_0 l0_0.length c0_0, .slice A0_1 l0_1.length c0_1, .slice A0_2 l0_2.length c0_2, .slice A0_3 l0_3.length c0_3]) (t:=30) (by first|(go_simp;done)|(go_simp;rfl)) ?_;intro gb110 hg w17 hbox hb;have _:=qm (qt HB.out hb);have _:=qm (hbox);have _:=qm ((gs hg (qs HB.out)));have _:=qm ((gs hg (qs HB.out)));clear HB;rename_i HB BK110 GW110 GE110;clear hb hbox hg;obtain ⟨_,_,_,_,_,_,_,_⟩:=fc4 BK110.out)|((with_reducible refine gate_callee (f:=54) rfl ?_);refine goesL_ (some 8) rfl rfl Try.func54 (by kernel_rfl) rfl #[.slice A0_0 l0_0.length c0_0, .int .i64 a1] rfl (by (try simp only [m1,m2,m3]);first|done|rfl) ?_;(with_reducible refine (laws_szByteS.calls _ _ l0_0 a1 t111 _ ?side1 ?side2 A3.out).mono ?_);(case side1=>exact cb (Kd.C_below HR0_0.out HB.out));(case side2=>exact HC0_0.out);rintro e w' ⟨rfl,⟨nd,rfl⟩⟩;refine ⟨_,rfl,?_⟩)|((with_reducible refine gate_callee (f:=54) rfl ?_);refine goesL_ (some 14) rfl rfl Try.func54 (by kernel_rfl) rfl #[.slice A0_1 l0_1.length c0_1, .int .i64 t111] rfl (by (try simp only [m1,m2,m3]);first|done|rfl) ?_;(with_reducible refine (laws_szByteS.calls _ _ l0_1 t111 t112 _ ?side1 ?side2 A7.out).mono ?_);(case side1=>exact cb (Kd.C_below HR0_1.out (by repeat first|exact HB.out|apply qh|apply qi|apply qj|refine bk ?_)));(case side2=>exact HC0_1.out);rintro e w' ⟨rfl,⟨nd,rfl⟩⟩;refine ⟨_,rfl,?_⟩)|((with_reducible refine gate_callee (f:=54) rfl ?_);refine goesL_ (some 20) rfl rfl Try.func54 (by kernel_rfl) rfl #[.slice A0_2 l0_2.length c0_2, .int .i64 t112] rfl (by (try simp only [m1,m2,m3]);first|done|rfl) ?_;(with_reducible refine (laws_szByteS.calls _ _ l0_2 t112 t113 _ ?side1 ?side2 A11.out).mono ?_);(case side1=>exact cb (Kd.C_below HR0_2.out (by repeat first|exact HB.out|apply qh|apply qi|apply qj|refine bk ?_)));(case side2=>exact HC0_2.out);rintro e w' ⟨rfl,⟨nd,rfl⟩⟩;refine ⟨_,rfl,?_⟩)|((with_reducible refine gate_callee (f:=54) rfl ?_);refine goesL_ (some 26) rfl rfl Try.func54 (by kernel_rfl) rfl #[.slice A0_3 l0_3.length c0_3, .int .i64 t113] rfl (by (try simp only [m1,m2,m3]);first|done|rfl) ?_;(with_reducible refine (laws_szByteS.calls _ _ l0_3 t113 t114 _ ?side1 ?side2 A15.out).mono ?_);(case side1=>exact cb (Kd.C_below HR0_3.out (by repeat first|exact HB.out|apply qh|apply qi|apply qj|refine bk ?_)));(case side2=>exact HC0_3.out);rintro e w' ⟨rfl,⟨nd,rfl⟩⟩;refine ⟨_,rfl,?_⟩))
  go_ret
  exact ⟨by first|rfl|(simp <;> rfl)|(simp [*] <;> rfl),by repeat (first|(with_reducible first|exact HB.out|apply qh|apply qi|apply qj|refine qk ?_ GE110.out)|exact HB.out)⟩
 rw [if_neg c16] at H
 have c16b0:decide (t114<0)=false:=decide_eq_false c16
 clear c16
 obtain rfl:=Option.some.inj H
 go_enter Try.func24,Try.ntmps24
 go_wp2_with (first|((with_reducible refine gate_dst (N:=2) rfl ?_);refine box_event (by rfl) (N:=2) (by rfl) (cs:=#[.slice A0_0 l0_0.length c0_0, .slice A0_1 l0_1.length c0_1, .slice A0_2 l0_2.length c0_2, .slice A0_3 l0_3.length c0_3]) (t:=30) (by first|(go_simp;done)|(go_simp;rfl)) ?_;intro gb110 hg w19 hbox hb;have _:=qm (qt HB.out hb);have _:=qm (hbox);have _:=qm ((gs hg (qs HB.out)));have _:=qm ((gs hg (qs HB.out)));clear HB;rename_i HB BK110 GW110 GE110;clear hb hbox hg;obtain ⟨_,_,_,_,_,_,_,_⟩:=fc4 BK110.out)|((with_reducible refine gate_callee (f:=54) rfl ?_);refine goesL_ (some 8) rfl rfl Try.func54 (by kernel_rfl) rfl #[.slice A0_0 l0_0.length c0_0, .int .i64 a1] rfl (by (try simp only [m1,m2,m3]);first|done|rfl) ?_;(with_reducible refine (laws_szByteS.calls _ _ l0_0 a1 t111 _ ?side1 ?side2 A3.out).mono ?_);(case side1=>exact cb (Kd.C_below HR0_0.out HB.out));(case side2=>exact HC0_0.out);rintro e w' ⟨rfl,⟨nd,rfl⟩⟩;refine ⟨_,rfl,?_⟩)|((with_reducible refine gate_callee (f:=54) rfl ?_);refine goesL_ (some 14) rfl rfl Try.func54 (by kernel_rfl) rfl #[.slice A0_1 l0_1.length c0_1, .int .i64 t111] rfl (by (try simp only [m1,m2,m3]);first|done|rfl) ?_;(with_reducible refine (laws_szByteS.calls _ _ l0_1 t111 t112 _ ?side1 ?side2 A7.out).mono ?_);(case side1=>exact cb (Kd.C_below HR0_1.out (by repeat first|exact HB.out|apply qh|apply qi|apply qj|refine bk ?_)));(case side2=>exact HC0_1.out);rintro e w' ⟨rfl,⟨nd,rfl⟩⟩;refine ⟨_,rfl,?_⟩)|((with_reducible refine gate_callee (f:=54) rfl ?_);refine goesL_ (some 20) rfl rfl Try.func54 (by kernel_rfl) rfl #[.slice A0_2 l0_2.length c0_2, .int .i64 t112] rfl (by (try simp only [m1,m2,m3]);first|done|rfl) ?_;(with_reducible refine (laws_szByteS.calls _ _ l0_2 t112 t113 _ ?side1 ?side2 A11.out).mono ?_);(case side1=>exact cb (Kd.C_below HR0_2.out (by repeat first|exact HB.out|apply qh|apply qi|apply qj|refine bk ?_)));(case side2=>exact HC0_2.out);rintro e w' ⟨rfl,⟨nd,rfl⟩⟩;refine ⟨_,rfl,?_⟩)|((with_reducible refine gate_callee (f:=54) rfl ?_);refine goesL_ (some 26) rfl rfl Try.func54 (by kernel_rfl) rfl #[.slice A0_3 l0_3.length c0_3, .int .i64 t113] rfl (by (try simp only [m1,m2,m3]);first|done|rfl) ?_;(with_reducible refine (laws_szByteS.calls _ _ l0_3 t113 t114 _ ?side1 ?side2 A15.out).mono ?_);(case side1=>exact cb (Kd.C_below HR0_3.out (by repeat first|exact HB.out|apply qh|apply qi|apply qj|refine bk ?_)));(case side2=>exact HC0_3.out);rintro e w' ⟨rfl,⟨nd,rfl⟩⟩;refine ⟨_,rfl,?_⟩))
 go_ret
 exact ⟨by first|rfl|(simp <;> rfl)|(simp [*] <;> rfl),by repeat (first|(with_reducible first|exact HB.out|apply qh|apply qi|apply qj|refine qk ?_ GE110.out)|exact HB.out)⟩
def laws_toKeys.f (k:Nat) (l0_0:List Int) (l0_1:List Int) (l0_2:List Int) (l0_3:List Int):Option (List Int×List Int×List Int×List Int):=(laws_toByteS.f k l0_0).bind fun t118=>((laws_toByteS.f k l0_1).bind fun t121=>((laws_toByteS.f k l0_2).bind fun t124=>((laws_toByteS.f k l0_3).bind fun t127=>(some (t118,t121,t124,t127)))))
set_option maxHeartbeats 8000000 in
set_option maxRecDepth 100000 in
theorem laws_toKeys.calls (k:Nat) (A0_0:Option Addr) (c0_0:Nat) (l0_0:List Int) (A0_1:Option Addr) (c0_1:Nat) (l0_1:List Int) (A0_2:Option Addr) (c0_2:Nat) (l0_2:List Int) (A0_3:Option Addr) (c0_3:Nat) (l0_3:List Int) (r1:List Int) (r2:List Int) (r3:List Int) (r4:List Int) (w:World) (hr0_0:Kd.C (Kd.int .u8) w A0_0 l0_0.length l0_0) (hc0_0:l0_0.length≤c0_0) (hr0_1:Kd.C (Kd.int .u8) w A0_1 l0_1.length l0_1) (hc0_1:l0_1.length≤c0_1) (hr0_2:Kd.C (Kd.int .u8) w A0_2 l0_2.length l0_2) (hc0_2:l0_2.length≤c0_2) (hr0_3:Kd.C (Kd.int .u8) w A0_3 l0_3.length l0_3) (hc0_3:l0_3.length≤c0_3) (h:laws_toKeys.f k l0_0 l0_1 l0_2 l0_3=some (r1,r2,r3,r4)) :
  Calls Try.prog 26 #[.agg #[.slice A0_0 l0_0.length c0_0, .slice A0_1 l0_1.length c0_1, .slice A0_2 l0_2.length c0_2, .slice A0_3 l0_3.length c0_3]] w fun e w' =>∃ v0_ v1_ v2_ v3_:Value,e = .returned (.agg #[v0_,v1_,v2_,v3_])∧Kd.R (Kd.int .u8) 5 w' w.heap.size (fun k_=>ob k_ v1_∧ob k_ v2_∧ob k_ v3_) v0_ r1∧Kd.R (Kd.int .u8) 5 w' w.heap.size (fun k_=>ob k_ v0_∧ob k_ v2_∧ob k_ v3_) v1_ r2∧Kd.R (Kd.int .u8) 5 w' w.heap.size (fun k_=>ob k_ v0_∧ob k_ v1_∧ob k_ v3_) v2_ r3∧Kd.R (Kd.int .u8) 5 w' w.heap.size (fun k_=>ob k_ v0_∧ob k_ v1_∧ob k_ v2_) v3_ r4∧Below w.heap.size w w' :=by
 have hu30:=Try.underlying30
 have hu33:=Try.underlying33
 have HR0_0:=qm hr0_0
 have HC0_0:=qm hc0_0
 clear hr0_0 hc0_0
 have HR0_1:=qm hr0_1
 have HC0_1:=qm hc0_1
 clear hr0_1 hc0_1
 have HR0_2:=qm hr0_2
 have HC0_2:=qm hc0_2
 clear hr0_2 hc0_2
 have HR0_3:=qm hr0_3
 have HC0_3:=qm hc0_3
 clear hr0_3 hc0_3
 have HB:=qm (Below.refl w.heap.size w)
 have H:((laws_toByteS.f k l0_0).bind fun t118=>((laws_toByteS.f k l0_1).bind fun t121=>((laws_toByteS.f k l0_2).bind fun t124=>((laws_toByteS.f k l0_3).bind fun t127=>(some (t118,t121,t124,t127))))))=some (r1,r2,r3,r4):=h
 clear h
 replace H:=Option.bind_eq_some_iff.mp H
 obtain ⟨t118,A20,H⟩:=H
 try dsimp only at H
 have A2:=qm A20
 clear A20
 replace H:=Option.bind_eq_some_iff.mp H
 obtain ⟨t121,A30,H⟩:=H
 try dsimp only at H
 have A3:=qm A30
 clear A30
 replace H:=Option.bind_eq_some_iff.mp H
 obtain ⟨t124,A40,H⟩:=H
 try dsimp only at H
 have A4:=qm A40
 clear A40
 replace H:=Option.bind_eq_some_iff.mp H
 obtain ⟨t127,A50,H⟩:=H
 try dsimp only at H
 have A5:=qm A50
 clear A50
 simp only [Option.some.injEq,Prod.mk.injEq] at H
 obtain ⟨rfl,rfl,rfl,rfl⟩:=H
 go_enter Try.func26,Try.ntmps26
 go_wp2_with (first|((with_reducible refine gate_dst (N:=1) rfl ?_);refine box_event (by rfl) (N:=1) (by rfl) (cs:=#[.slice A0_0 l0_0.length c0_0, .slice A0_1 l0_1.length c0_1, .slice A0_2 l0_2.length c0_2, .slice A0_3 l0_3.length c0_3]) (t:=30) (by first|(go_simp;done)|(go_simp;rfl)) ?_;intro gb115 hg w6 hbox hb;have _:=qm (qt HB.out hb);have _:=qm (hbox);have _:=qm ((gs hg (qs HB.out)));have _:=qm ((gs hg (qs HB.out)));clear HB;rename_i HB BK115 GW115 GE115;clear hb hbox hg)|((with_reducible refine gate_dst (N:=2) rfl ?_);refine box_event (by rfl) (N:=2) (by rfl) (cs:=#[.slice none 0 0, .slice none 0 0, .slice none 0 0, .slice none 0 0]) (t:=33) (by first|(go_simp;done)|(go_simp;rfl)) ?_;intro gb116 hg w7 hbox hb;have _:=qm (qv (g:=gb115) BK115.out hb);have _:=qm (qt (by repeat first|exact HB.out|apply qh|apply qi|apply qj|refine bk ?_) hb);have _:=qm (hbox);have _:=qm ((gs hg (qs (by repeat first|exact HB.out|apply qh|apply qi|apply qj|refine bk ?_))));have _:=qm ((gs hg (qs (by repeat first|exact HB.out|apply qh|apply qi|apply qj|refine bk ?_))));have _:=qm ((na hg BK115.out));have _:=qm ((nb hg BK115.out));clear BK115 HB;rename_i BK115 HB BK116 GW116 GE116 NB115_116 NB116_115;clear hb hbox hg)|((with_reducible refine gate_dst (N:=3) rfl ?_);refine box_event (by rfl) (N:=3) (by rfl) (cs:=#[.slice none 0 0, .slice none 0 0, .slice none 0 0, .slice none 0 0]) (t:=33) (by first|(go_simp;done)|(go_simp;rfl)) ?_;intro gb117 hg w8 hbox hb;have _:=qm (qv (g:=gb115) BK115.out hb);have _:=qm (qv (g:=gb116) BK116.out hb);have _:=qm (qt (by repeat first|exact HB.out|apply qh|apply qi|apply qj|refine bk ?_) hb);have _:=qm (hbox);have _:=qm ((gs hg (qs (by repeat first|exact HB.out|apply qh|apply qi|apply qj|refine bk ?_))));have _:=qm ((gs hg (qs (by repeat first|exact HB.out|apply qh|apply qi|apply qj|refine bk ?_))));have _:=qm ((na hg BK115.out));have _:=qm ((nb hg BK115.out));have _:=qm ((na hg BK116.out));have _:=qm ((nb hg BK116.out));clear BK115 BK116 HB;rename_i BK115 BK116 HB BK117 GW117 GE117 NB115_117 NB117_115 NB116_117 NB117_116;clear hb hbox hg;have hnb9:=NB115_116.out;have hnc9:=NB116_115.out;have hnb10:=NB115_117.out;have hnc10:=NB117_115.out;obtain ⟨_,_,_,_,_,_,_,_⟩:=fc4 BK115.out)|((with_reducible refine gate_callee (f:=15) rfl ?_);refine goesL_ (some 6) rfl rfl Try.func15 (by kernel_rfl) rfl #[.slice A0_0 l0_0.length c0_0] rfl (by (try simp only [m1,m2,m3]);first|done|rfl) ?_;(with_reducible refine (laws_toByteS.calls k _ _ l0_0 t118 _ ?side1 ?side2 A2.out).mono ?_);(case side1=>exact cb (Kd.C_below HR0_0.out HB.out));(case side2=>exact HC0_0.out);rintro e w12 ⟨v119,rfl,ho0,hb⟩;refine ⟨_,rfl,?_⟩;have _:=qm (Kd.R_lower ho0 (qs (by repeat first|exact HB.out|apply qh|apply qi|apply qj|refine bk ?_)));have _:=qm (qv (g:=gb115) BK115.out hb);have _:=qm (qv (g:=gb116) BK116.out hb);have _:=qm (qv (g:=gb117) BK117.out hb);have _:=qm (qt (by repeat first|exact HB.out|apply qh|apply qi|apply qj|refine bk ?_) hb);clear BK115 BK116 BK117 HB;rename_i HO120 BK115 BK116 BK117 HB;obtain ⟨Ao13,co13,eo13⟩:=Kd.R_slice HO120.out;subst eo13;have hnb14:=NB117_116.out;have hnc14:=NB116_117.out;obtain ⟨_,_,_,_,_,_,_,_⟩:=fc4 BK117.out;obtain ⟨_,_,_,_,_,_,_,_⟩:=fc4 BK115.out)|((with_reducible refine gate_callee (f:=15) rfl ?_);refine goesL_ (some 10) rfl rfl Try.func15 (by kernel_rfl) rfl #[.slice A0_1 l0_1.length c0_1] rfl (by (try simp only [m1,m2,m3]);first|done|rfl) ?_;(with_reducible refine (laws_toByteS.calls k _ _ l0_1 t121 _ ?side1 ?side2 A3.out).mono ?_);(case side1=>exact Kd.C_below HR0_1.out (by repeat first|exact HB.out|apply qh|apply qi|apply qj|refine bk ?_));(case side2=>exact HC0_1.out);rintro e w17 ⟨v122,rfl,ho0,hb⟩;refine ⟨_,rfl,?_⟩;have _:=qm (Kd.R_elder' (rb (qg (qa (p:=⟨gb117,0,none⟩) (Kd.R_types HO120.out BK117.out (by decide)) (fun _ hk=>hk.2) (.slice Ao13 t118.length co13)) (fun _ h_=>h_.1))) (Kd.R_base ho0) hb);have _:=qm (Kd.R_lower (nw ho0 (rb (qg (qa (p:=⟨gb117,0,none⟩) (Kd.R_types HO120.out BK117.out (by decide)) (fun _ hk=>hk.2) (.slice Ao13 t118.length co13)) (fun _ h_=>h_.1)))) (qs (by repeat first|exact HB.out|apply qh|apply qi|apply qj|refine bk ?_)));have _:=qm (qv (g:=gb115) (o:= .cells #[.slice A0_0 l0_0.length c0_0, .slice A0_1 l0_1.length c0_1, .slice A0_2 l0_2.length c0_2, .slice A0_3 l0_3.length c0_3] 30 (0,0)) (by (with_reducible repeat first|apply ql|apply qn|apply qo);refine qr ?_ NB115_117.out _;exact kb BK115.out) hb);have _:=qm (qv (g:=gb116) (o:= .cells #[.slice none 0 0, .slice none 0 0, .slice none 0 0, .slice none 0 0] 33 (0,0)) (by (with_reducible repeat first|apply ql|apply qn|apply qo);refine qr ?_ NB116_117.out _;exact kb BK116.out) hb);have _:=qm (qv (g:=gb117) (o:= .cells #[.slice Ao13 t118.length co13, .slice none 0 0, .slice none 0 0, .slice none 0 0] 33 (0,0)) (by (with_reducible repeat first|apply ql|apply qn|apply qo);refine qp (cs:=#[.slice none 0 0, .slice none 0 0, .slice none 0 0, .slice none 0 0]) ?_ 0 _ rfl;exact kb BK117.out) hb);have _:=qm (qt (by repeat first|exact HB.out|apply qh|apply qi|apply qj|refine bk ?_) hb);clear HO120 BK115 BK116 BK117 HB;rename_i HO120 HO123 BK115 BK116 BK117 HB;obtain ⟨Ao18,co18,eo18⟩:=Kd.R_slice HO123.out;subst eo18;obtain ⟨_,_,_,_,_,_,_,_⟩:=fc4 BK117.out;obtain ⟨_,_,_,_,_,_,_,_⟩:=fc4 BK115.out)|((with_reducible refine gate_callee (f:=15) rfl ?_);refine goesL_ (some 14) rfl rfl Try.func15 (by kernel_rfl) rfl #[.slice A0_2 l0_2.length c0_2] rfl (by (try simp only [m1,m2,m3]);first|done|rfl) ?_;(with_reducible refine (laws_toByteS.calls k _ _ l0_2 t124 _ ?side1 ?side2 A4.out).mono ?_);(case side1=>exact Kd.C_below HR0_2.out (by repeat first|exact HB.out|apply qh|apply qi|apply qj|refine bk ?_));(case side2=>exact HC0_2.out);rintro e w21 ⟨v125,rfl,ho0,hb⟩;refine ⟨_,rfl,?_⟩;have _:=qm (Kd.R_elder' (rb (qg (qa (p:=⟨gb117,1,none⟩) (Kd.R_types HO120.out BK117.out (by decide)) (fun _ hk=>hk.2) (.slice Ao18 t121.length co18)) (fun _ h_=>h_.1))) (Kd.R_base ho0) hb);have _:=qm (Kd.R_elder' (rb (qg (qa (p:=⟨gb117,1,none⟩) (Kd.R_types HO123.out BK117.out (by decide)) (fun _ hk=>hk.2) (.slice Ao18 t121.length co18)) (fun _ h_=>h_.1))) (Kd.R_base ho0) hb);have _:=qm (Kd.R_lower (nw (nw ho0 (rb (qg (qa (p:=⟨gb117,1,none⟩) (Kd.R_types HO120.out BK117.out (by decide)) (fun _ hk=>hk.2) (.slice Ao18 t121.length co18)) (fun _ h_=>h_.1)))) (rb (qg (qa (p:=⟨gb117,1,none⟩) (Kd.R_types HO123.out BK117.out (by decide)) (fun _ hk=>hk.2) (.slice Ao18 t121.length co18)) (fun _ h_=>h_.1)))) (qs (by repeat first|exact HB.out|apply qh|apply qi|apply qj|refine bk ?_)));have _:=qm (qv (g:=gb115) (o:= .cells #[.slice A0_0 l0_0.length c0_0, .slice A0_1 l0_1.length c0_1, .slice A0_2 l0_2.length c0_2, .slice A0_3 l0_3.length c0_3] 30 (0,0)) (by (with_reducible repeat first|apply ql|apply qn|apply qo);refine qr ?_ NB115_117.out _;exact kb BK115.out) hb);have _:=qm (qv (g:=gb116) (o:= .cells #[.slice none 0 0, .slice none 0 0, .slice none 0 0, .slice none 0 0] 33 (0,0)) (by (with_reducible repeat first|apply ql|apply qn|apply qo);refine qr ?_ NB116_117.out _;exact kb BK116.out) hb);have _:=qm (qv (g:=gb117) (o:= .cells #[.slice Ao13 t118.length co13, .slice Ao18 t121.length co18, .slice none 0 0, .slice none 0 0] 33 (0,0)) (by (with_reducible repeat first|apply ql|apply qn|apply qo);refine qp (cs:=#[.slice Ao13 t118.length co13, .slice none 0 0, .slice none 0 0, .slice none 0 0]) ?_ 1 _ rfl;exact kb BK117.out) hb);have _:=qm (qt (by repeat first|exact HB.out|apply qh|apply qi|apply qj|refine bk ?_) hb);clear HO120 HO123 BK115 BK116 BK117 HB;rename_i HO120 HO123 HO126 BK115 BK116 BK117 HB;obtain ⟨Ao22,co22,eo22⟩:=Kd.R_slice HO126.out;subst eo22;obtain ⟨_,_,_,_,_,_,_,_⟩:=fc4 BK117.out;obtain ⟨_,_,_,_,_,_,_,_⟩:=fc4 BK115.out)|((with_reducible refine gate_callee (f:=15) rfl ?_);refine goesL_ (some 18) rfl rfl Try.func15 (by kernel_rfl) rfl #[.slice A0_3 l0_3.length c0_3] rfl (by (try simp only [m1,m2,m3]);first|done|rfl) ?_;(with_reducible refine (laws_toByteS.calls k _ _ l0_3 t127 _ ?side1 ?side2 A5.out).mono ?_);(case side1=>exact Kd.C_below HR0_3.out (by repeat first|exact HB.out|apply qh|apply qi|apply qj|refine bk ?_));(case side2=>exact HC0_3.out);rintro e w25 ⟨v128,rfl,ho0,hb⟩;refine ⟨_,rfl,?_⟩;have _:=qm (Kd.R_elder' (rb (qg (qa (p:=⟨gb117,2,none⟩) (Kd.R_types HO120.out BK117.out (by decide)) (fun _ hk=>hk.2) (.slice Ao22 t124.length co22)) (fun _ h_=>h_.1))) (Kd.R_base ho0) hb);have _:=qm (Kd.R_elder' (rb (qg (qa (p:=⟨gb117,2,none⟩) (Kd.R_types HO123.out BK117.out (by decide)) (fun _ hk=>hk.2) (.slice Ao22 t124.length co22)) (fun _ h_=>h_.1))) (Kd.R_base ho0) hb);have _:=qm (Kd.R_elder' (rb (qg (qa (p:=⟨gb117,2,none⟩) (Kd.R_types HO126.out BK117.out (by decide)) (fun _ hk=>hk.2) (.slice Ao22 t124.length co22)) (fun _ h_=>h_.1))) (Kd.R_base ho0) hb);have _:=qm (Kd.R_lower (nw (nw (nw ho0 (rb (qg (qa (p:=⟨gb117,2,none⟩) (Kd.R_types HO120.out BK117.out (by decide)) (fun _ hk=>hk.2) (.slice Ao22 t124.length co22)) (fun _ h_=>h_.1)))) (rb (qg (qa (p:=⟨gb117,2,none⟩) (Kd.R_types HO123.out BK117.out (by decide)) (fun _ hk=>hk.2) (.slice Ao22 t124.length co22)) (fun _ h_=>h_.1)))) (rb (qg (qa (p:=⟨gb117,2,none⟩) (Kd.R_types HO126.out BK117.out (by decide)) (fun _ hk=>hk.2) (.slice Ao22 t124.length co22)) (fun _ h_=>h_.1)))) (qs (by repeat first|exact HB.out|apply qh|apply qi|apply qj|refine bk ?_)));have _:=qm (qv (g:=gb115) (o:= .cells #[.slice A0_0 l0_0.length c0_0, .slice A0_1 l0_1.length c0_1, .slice A0_2 l0_2.length c0_2, .slice A0_3 l0_3.length c0_3] 30 (0,0)) (by (with_reducible repeat first|apply ql|apply qn|apply qo);refine qr ?_ NB115_117.out _;exact kb BK115.out) hb);have _:=qm (qv (g:=gb116) (o:= .cells #[.slice none 0 0, .slice none 0 0, .slice none 0 0, .slice none 0 0] 33 (0,0)) (by (with_reducible repeat first|apply ql|apply qn|apply qo);refine qr ?_ NB116_117.out _;exact kb BK116.out) hb);have _:=qm (qv (g:=gb117) (o:= .cells #[.slice Ao13 t118.length co13, .slice Ao18 t121.length co18, .slice Ao22 t124.length co22, .slice none 0 0] 33 (0,0)) (by (with_reducible repeat first|apply ql|apply qn|apply qo);refine qp (cs:=#[.slice Ao13 t118.length co13, .slice Ao18 t121.length co18, .slice none 0 0, .slice none 0 0]) ?_ 2 _ rfl;exact kb BK117.out) hb);have _:=qm (qt (by repeat first|exact HB.out|apply qh|apply qi|apply qj|refine bk ?_) hb);clear HO120 HO123 HO126 BK115 BK116 BK117 HB;rename_i HO120 HO123 HO126 HO129 BK115 BK116 BK117 HB;obtain ⟨Ao26,co26,eo26⟩:=Kd.R_slice HO129.out;subst eo26;obtain ⟨_,_,_,_,_,_,_,_⟩:=fc4 BK117.out;obtain ⟨_,_,_,_,_,_,_,_⟩:=fc4 BK116.out))
 refine bodyPost_ret (results_cell_row rfl _ _ gb116 33 #[.slice Ao13 t118.length co13, .slice Ao18 t121.length co18, .slice Ao22 t124.length co22, .slice Ao26 t127.length co26] (0,0) _ rfl (by (with_reducible repeat first|apply ql|apply qn|apply qo);refine qp (cs:=#[.slice Ao13 t118.length co13, .slice Ao18 t121.length co18, .slice Ao22 t124.length co22, .slice none 0 0]) ?_ 3 _ rfl;refine qp (cs:=#[.slice Ao13 t118.length co13, .slice Ao18 t121.length co18, .slice none 0 0, .slice none 0 0]) ?_ 2 _ rfl;refine qp (cs:=#[.slice Ao13 t118.length co13, .slice none 0 0, .slice none 0 0, .slice none 0 0]) ?_ 1 _ rfl;refine qp (cs:=#[.slice none 0 0, .slice none 0 0, .slice none 0 0, .slice none 0 0]) ?_ 0 _ rfl;refine qr ?_ NB116_117.out _;exact kb BK116.out) Try.underlying33 rfl (by kernel_rfl)) rfl ?_
 exact ⟨_,_,_,_,by first|rfl|(simp <;> rfl)|(simp [*] <;> rfl),by (with_reducible repeat (first|apply qb|apply qc|apply qd));exact qg (qa (p:=⟨gb116,3,none⟩) (qa (p:=⟨gb116,2,none⟩) (qa (p:=⟨gb116,1,none⟩) (qa (p:=⟨gb116,0,none⟩) (qa (p:=⟨gb117,3,none⟩) (Kd.R_types (Kd.R_types HO120.out BK117.out (by decide)) BK116.out (by decide)) (fun _ hk=>hk.1.2) (.slice Ao26 t127.length co26)) (fun _ hk=>hk.2) (.slice Ao13 t118.length co13)) (fun _ hk=>hk.2) (.slice Ao18 t121.length co18)) (fun _ hk=>hk.2) (.slice Ao22 t124.length co22)) (fun _ hk=>hk.2) (.slice Ao26 t127.length co26)) (fun _ hk=>⟨hk.1.1.1.1.2,⟨hk.1.1.1.2,hk.1.1.2⟩⟩),by (with_reducible repeat (first|apply qb|apply qc|apply qd));exact qg (qa (p:=⟨gb116,3,none⟩) (qa (p:=⟨gb116,2,none⟩) (qa (p:=⟨gb116,1,none⟩) (qa (p:=⟨gb116,0,none⟩) (qa (p:=⟨gb117,3,none⟩) (Kd.R_types (Kd.R_types HO123.out BK117.out (by decide)) BK116.out (by decide)) (fun _ hk=>hk.1.2) (.slice Ao26 t127.length co26)) (fun _ hk=>hk.2) (.slice Ao13 t118.length co13)) (fun _ hk=>hk.2) (.slice Ao18 t121.length co18)) (fun _ hk=>hk.2) (.slice Ao22 t124.length co22)) (fun _ hk=>hk.2) (.slice Ao26 t127.length co26)) (fun _ hk=>⟨hk.1.1.1.1.2,⟨hk.1.1.1.2,hk.1.1.2⟩⟩),by (with_reducible repeat (first|apply qb|apply qc|apply qd));exact qg (qa (p:=⟨gb116,3,none⟩) (qa (p:=⟨gb116,2,none⟩) (qa (p:=⟨gb116,1,none⟩) (qa (p:=⟨gb116,0,none⟩) (qa (p:=⟨gb117,3,none⟩) (Kd.R_types (Kd.R_types HO126.out BK117.out (by decide)) BK116.out (by decide)) (fun _ hk=>hk.1.2) (.slice Ao26 t127.length co26)) (fun _ hk=>hk.2) (.slice Ao13 t118.length co13)) (fun _ hk=>hk.2) (.slice Ao18 t121.length co18)) (fun _ hk=>hk.2) (.slice Ao22 t124.length co22)) (fun _ hk=>hk.2) (.slice Ao26 t127.length co26)) (fun _ hk=>⟨hk.1.1.1.1.2,⟨hk.1.1.1.2,hk.1.1.2⟩⟩),by (with_reducible repeat (first|apply qb|apply qc|apply qd));exact qg (qa (p:=⟨gb116,3,none⟩) (qa (p:=⟨gb116,2,none⟩) (qa (p:=⟨gb116,1,none⟩) (qa (p:=⟨gb116,0,none⟩) (qa (p:=⟨gb117,3,none⟩) (Kd.R_types (Kd.R_types HO129.out BK117.out (by decide)) BK116.out (by decide)) (fun _ hk=>hk.1.2) (.slice Ao26 t127.length co26)) (fun _ hk=>hk.2) (.slice Ao13 t118.length co13)) (fun _ hk=>hk.2) (.slice Ao18 t121.length co18)) (fun _ hk=>hk.2) (.slice Ao22 t124.length co22)) (fun _ hk=>hk.2) (.slice Ao26 t127.length co26)) (fun _ hk=>⟨hk.1.1.1.1.2,⟨hk.1.1.1.2,hk.1.1.2⟩⟩),by repeat (first|(with_reducible first|exact HB.out|apply qh|apply qi|apply qj|refine qk ?_ GE115.out|refine qk ?_ GE116.out|refine qk ?_ GE117.out)|exact HB.out)⟩
def laws_eqKeys.f (k:Nat) (l0_0:List Int) (l0_1:List Int) (l0_2:List Int) (l0_3:List Int) (l1_0:List Int) (l1_1:List Int) (l1_2:List Int) (l1_3:List Int):Option (Bool):=(laws_eqByteS.f k l0_0 l1_0).bind fun t132=>(if t132=true then ((laws_eqByteS.f k l0_1 l1_1).bind fun t133=>(if t133=true then ((laws_eqByteS.f k l0_2 l1_2).bind fun t134=>(if t134=true then ((laws_eqByteS.f k l0_3 l1_3).bind fun t135=>(if t135=true then (some true) else (some false))) else (some false))) else (some false))) else (some false))
set_option maxHeartbeats 8000000 in
set_option maxRecDepth 100000 in
theorem laws_eqKeys.calls (k:Nat) (A0_0:Option Addr) (c0_0:Nat) (l0_0:List Int) (A0_1:Option Addr) (c0_1:Nat) (l0_1:List Int) (A0_2:Option Addr) (c0_2:Nat) (l0_2:List Int) (A0_3:Option Addr) (c0_3:Nat) (l0_3:List Int) (A1_0:Option Addr) (c1_0:Nat) (l1_0:List Int) (A1_1:Option Addr) (c1_1:Nat) (l1_1:List Int) (A1_2:Option Addr) (c1_2:Nat) (l1_2:List Int) (A1_3:Option Addr) (c1_3:Nat) (l1_3:List Int) (r:Bool) (w:World) (hr0_0:Kd.C (Kd.int .u8) w A0_0 l0_0.length l0_0) (hc0_0:l0_0.length≤c0_0) (hr0_1:Kd.C (Kd.int .u8) w A0_1 l0_1.length l0_1) (hc0_1:l0_1.length≤c0_1) (hr0_2:Kd.C (Kd.int .u8) w A0_2 l0_2.length l0_2) (hc0_2:l0_2.length≤c0_2) (hr0_3:Kd.C (Kd.int .u8) w A0_3 l0_3.length l0_3) (hc0_3:l0_3.length≤c0_3) (hr1_0:Kd.C (Kd.int .u8) w A1_0 l1_0.length l1_0) (hc1_0:l1_0.length≤c1_0) (hr1_1:Kd.C (Kd.int .u8) w A1_1 l1_1.length l1_1) (hc1_1:l1_1.length≤c1_1) (hr1_2:Kd.C (Kd.int .u8) w A1_2 l1_2.length l1_2) (hc1_2:l1_2.length≤c1_2) (hr1_3:Kd.C (Kd.int .u8) w A1_3 l1_3.length l1_3) (hc1_3:l1_3.length≤c1_3) (h:laws_eqKeys.f k l0_0 l0_1 l0_2 l0_3 l1_0 l1_1 l1_2 l1_3=some r) :
  Calls Try.prog 28 #[.agg #[.slice A0_0 l0_0.length c0_0, .slice A0_1 l0_1.length c0_1, .slice A0_2 l0_2.length c0_2, .slice A0_3 l0_3.length c0_3], .agg #[.slice A1_0 l1_0.length c1_0, .slice A1_1 l1_1.length c1_1, .slice A1_2 l1_2.length c1_2, .slice A1_3 l1_3.length c1_3]] w fun e w' =>e = .returned (.bool r)∧Below w.heap.size w w' :=by
 have hu33:=Try.underlying33
 have HR0_0:=qm hr0_0
 have HC0_0:=qm hc0_0
 clear hr0_0 hc0_0
 have HR0_1:=qm hr0_1
 have HC0_1:=qm hc0_1
 clear hr0_1 hc0_1
 have HR0_2:=qm hr0_2
 have HC0_2:=qm hc0_2
 clear hr0_2 hc0_2
 have HR0_3:=qm hr0_3
 have HC0_3:=qm hc0_3
 clear hr0_3 hc0_3
 have HR1_0:=qm hr1_0
 have HC1_0:=qm hc1_0
 clear hr1_0 hc1_0
 have HR1_1:=qm hr1_1
 have HC1_1:=qm hc1_1
 clear hr1_1 hc1_1
 have HR1_2:=qm hr1_2
 have HC1_2:=qm hc1_2
 clear hr1_2 hc1_2
 have HR1_3:=qm hr1_3
 have HC1_3:=qm hc1_3
 clear hr1_3 hc1_3
 have HB:=qm (Below.refl w.heap.size w)
 have H:((laws_eqByteS.f k l0_0 l1_0).bind fun t132=>(if t132=true then ((laws_eqByteS.f k l0_1 l1_1).bind fun t133=>(if t133=true then ((laws_eqByteS.f k l0_2 l1_2).bind fun t134=>(if t134=true then ((laws_eqByteS.f k l0_3 l1_3).bind fun t135=>(if t135=true then (some true) else (some false))) else (some false))) else (some false))) else (some false)))=some r:=h
 clear h
 replace H:=Option.bind_eq_some_iff.mp H
 obtain ⟨t132,A30,H⟩:=H
 try dsimp only at H
 have A3:=qm A30
 clear A30
 by_cases c4:t132=true
 ·subst c4
  rw [if_pos rfl] at H
  replace H:=Option.bind_eq_some_iff.mp H
  obtain ⟨t133,A50,H⟩:=H
  try dsimp only at H
  have A5:=qm A50
  clear A50
  by_cases c6:t133=true
  ·subst c6
   rw [if_pos rfl] at H
   replace H:=Option.bind_eq_some_iff.mp H
   obtain ⟨t134,A70,H⟩:=H
   try dsimp only at H
   have A7:=qm A70
   clear A70
   by_cases c8:t134=true
   ·subst c8
    rw [if_pos rfl] at H
    replace H:=Option.bind_eq_some_iff.mp H
    obtain ⟨t135,A90,H⟩:=H
    try dsimp only at H
    have A9:=qm A90
    clear A90
    by_cases c10:t135=true
    ·subst c10
     rw [if_pos rfl] at H
     obtain rfl:=Option.some.inj H
     go_enter Try.func28,Try.ntmps28
     go_wp2_with (first|((with_reducible refine gate_dst (N:=2) rfl ?_);refine box_event (by rfl) (N:=2) (by rfl) (cs:=#[.slice A0_0 l0_0.length c0_0, .slice A0_1 l0_1.length c0_1, .slice A0_2 l0_2.length c0_2, .slice A0_3 l0_3.length c0_3]) (t:=33) (by first|(go_simp;done)|(go_simp;rfl)) ?_;intro gb130 hg w11 hbox hb;have _:=qm (qt HB.out hb);have _:=qm (hbox);have _:=qm ((gs hg (qs HB.out)));have _:=qm ((gs hg (qs HB.out)));clear HB;rename_i HB BK130 GW130 GE130;clear hb hbox hg)|((with_reducible refine gate_dst (N:=3) rfl ?_);refine box_event (by rfl) (N:=3) (by rfl) (cs:=#[.slice A1_0 l1_0.length c1_0, .slice A1_1 l1_1.length c1_1, .slice A1_2 l1_2.length c1_2, .slice A1_3 l1_3.length c1_3]) (t:=33) (by first|(go_simp;done)|(go_simp;rfl)) ?_;intro gb131 hg w12 hbox hb;have _:=qm (qv (g:=gb130) BK130.out hb);have _:=qm (qt (by repeat first|exact HB.out|apply qh|apply qi|apply qj|refine bk ?_) hb);have _:=qm (hbox);have _:=qm ((gs hg (qs (by repeat first|exact HB.out|apply qh|apply qi|apply qj|refine bk ?_))));have _:=qm ((gs hg (qs (by repeat first|exact HB.out|apply qh|apply qi|apply qj|refine bk ?_))));have _:=qm ((na hg BK130.out));have _:=qm ((nb hg BK130.out));clear BK130 HB;rename_i BK130 HB BK131 GW131 GE131 NB130_131 NB131_130;clear hb hbox hg;have hnb13:=NB130_131.out;have hnc13:=NB131_130.out;obtain ⟨_,_,_,_,_,_,_,_⟩:=fc4 BK130.out;obtain ⟨_,_,_,_,_,_,_,_⟩:=fc4 BK131.out)|((with_reducible refine gate_callee (f:=17) rfl ?_);refine goesL_ (some 9) rfl rfl Try.func17 (by kernel_rfl) rfl #[.slice A0_0 l0_0.length c0_0, .slice A1_0 l1_0.length c1_0] rfl (by (try simp only [m1,m2,m3]);first|done|rfl) ?_;(with_reducible refine (laws_eqByteS.calls k _ _ l0_0 _ _ l1_0 true _ ?side1 ?side2 ?side3 ?side4 A3.out).mono ?_);(case side1=>exact cb (Kd.C_below HR0_0.out HB.out));(case side2=>exact HC0_0.out);(case side3=>exact cb (Kd.C_below HR1_0.out HB.out));(case side4=>exact HC1_0.out);rintro e w' ⟨rfl,⟨nd,rfl⟩⟩;refine ⟨_,rfl,?_⟩)|((with_reducible refine gate_callee (f:=17) rfl ?_);refine goesL_ (some 15) rfl rfl Try.func17 (by kernel_rfl) rfl #[.slice A0_1 l0_1.length c0_1, .slice A1_1 l1_1.length c1_1] rfl (by (try simp only [m1,m2,m3]);first|done|rfl) ?_;(with_reducible refine (laws_eqByteS.calls k _ _ l0_1 _ _ l1_1 true _ ?side1 ?side2 ?side3 ?side4 A5.out).mono ?_);(case side1=>exact cb (Kd.C_below HR0_1.out (by repeat first|exact HB.out|apply qh|apply qi|apply qj|refine bk ?_)));(case side2=>exact HC0_1.out);(case side3=>exact cb (Kd.C_below HR1_1.out (by repeat first|exact HB.out|apply qh|apply qi|apply qj|refine bk ?_)));(case side4=>exact HC1_1.out);rintro e w' ⟨rfl,⟨nd,rfl⟩⟩;refine ⟨_,rfl,?_⟩)|((with_reducible refine gate_callee (f:=17) rfl ?_);refine goesL_ (some 21) rfl rfl Try.func17 (by kernel_rfl) rfl #[.slice A0_2 l0_2.length c0_2, .slice A1_2 l1_2.length c1_2] rfl (by (try simp only [m1,m2,m3]);first|done|rfl) ?_;(with_reducible refine (laws_eqByteS.calls k _ _ l0_2 _ _ l1_2 true _ ?side1 ?side2 ?side3 ?side4 A7.out).mono ?_);(case side1=>exact cb (Kd.C_below HR0_2.out (by repeat first|exact HB.out|apply qh|apply qi|apply qj|refine bk ?_)));(case side2=>exact HC0_2.out);(case side3=>exact cb (Kd.C_below HR1_2.out (by repeat first|exact HB.out|apply qh|apply qi|apply qj|refine bk ?_)));(case side4=>exact HC1_2.out);rintro e w' ⟨rfl,⟨nd,rfl⟩⟩;refine ⟨_,rfl,?_⟩)|((with_reducible refine gate_callee (f:=17) rfl ?_);refine goesL_ (some 27) rfl rfl Try.func17 (by kernel_rfl) rfl #[.slice A0_3 l0_3.length c0_3, .slice A1_3 l1_3.length c1_3] rfl (by (try simp only [m1,m2,m3]);first|done|rfl) ?_;(with_reducible refine (laws_eqByteS.calls k _ _ l0_3 _ _ l1_3 true _ ?side1 ?side2 ?side3 ?side4 A9.out).mono ?_);(case side1=>exact cb (Kd.C_below HR0_3.out (by repeat first|exact HB.out|apply qh|apply qi|apply qj|refine bk ?_)));(case side2=>exact HC0_3.out);(case side3=>exact cb (Kd.C_below HR1_3.out (by repeat first|exact HB.out|apply qh|apply qi|apply qj|refine bk ?_)));(case side4=>exact HC1_3.out);rintro e w' ⟨rfl,⟨nd,rfl⟩⟩;refine ⟨_,rfl,?_⟩))
     go_ret
     exact ⟨by first|rfl|(simp <;> rfl)|(simp [*] <;> rfl),by repeat (first|(with_reducible first|exact HB.out|apply qh|apply qi|apply qj|refine qk ?_ GE130.out|refine qk ?_ GE131.out)|exact HB.out)⟩
    replace c10:=Bool.eq_false_iff.mpr c10
    subst c10
    rw [if_neg nt] at H
    obtain rfl:=Option.some.inj H
    go_enter Try.func28,Try.ntmps28
    go_wp2_with (first|((with_reducible refine gate_dst (N:=2) rfl ?_);refine box_event (by rfl) (N:=2) (by rfl) (cs:=#[.slice A0_0 l0_0.length c0_0, .slice A0_1 l0_1.length c0_1, .slice A0_2 l0_2.length c0_2, .slice A0_3 l0_3.length c0_3]) (t:=33) (by first|(go_simp;done)|(go_simp;rfl)) ?_;intro gb130 hg w16 hbox hb;have _:=qm (qt HB.out hb);have _:=qm (hbox);have _:=qm ((gs hg (qs HB.out)));have _:=qm ((gs hg (qs HB.out)));clear HB;rename_i HB BK130 GW130 GE130;clear hb hbox hg)|((with_reducible refine gate_dst (N:=3) rfl ?_);refine box_event (by rfl) (N:=3) (by rfl) (cs:=#[.slice A1_0 l1_0.length c1_0, .slice A1_1 l1_1.length c1_1, .slice A1_2 l1_2.length c1_2, .slice A1_3 l1_3.length c1_3]) (t:=33) (by first|(go_simp;done)|(go_simp;rfl)) ?_;intro gb131 hg w17 hbox hb;have _:=qm (qv (g:=gb130) BK130.out hb);have _:=qm (qt (by repeat first|exact HB.out|apply qh|apply qi|apply qj|refine bk ?_) hb);have _:=qm (hbox);have _:=qm ((gs hg (qs (by repeat first|exact HB.out|apply qh|apply qi|apply qj|refine bk ?_))));have _:=qm ((gs hg (qs (by repeat first|exact HB.out|apply qh|apply qi|apply qj|refine bk ?_))));have _:=qm ((na hg BK130.out));have _:=qm ((nb hg BK130.out));clear BK130 HB;rename_i BK130 HB BK131 GW131 GE131 NB130_131 NB131_130;clear hb hbox hg;have hnb18:=NB130_131.out;have hnc18:=NB131_130.out;obtain ⟨_,_,_,_,_,_,_,_⟩:=fc4 BK130.out;obtain ⟨_,_,_,_,_,_,_,_⟩:=fc4 BK131.out)|((with_reducible refine gate_callee (f:=17) rfl ?_);refine goesL_ (some 9) rfl rfl Try.func17 (by kernel_rfl) rfl #[.slice A0_0 l0_0.length c0_0, .slice A1_0 l1_0.length c1_0] rfl (by (try simp only [m1,m2,m3]);first|done|rfl) ?_;(with_reducible refine (laws_eqByteS.calls k _ _ l0_0 _ _ l1_0 true _ ?side1 ?side2 ?side3 ?side4 A3.out).mono ?_);(case side1=>exact cb (Kd.C_below HR0_0.out HB.out));(case side2=>exact HC0_0.out);(case side3=>exact cb (Kd.C_below HR1_0.out HB.out));(case side4=>exact HC1_0.out);rintro e w' ⟨rfl,⟨nd,rfl⟩⟩;refine ⟨_,rfl,?_⟩)|((with_reducible refine gate_callee (f:=17) rfl ?_);refine goesL_ (some 15) rfl rfl Try.func17 (by kernel_rfl) rfl #[.slice A0_1 l0_1.length c0_1, .slice A1_1 l1_1.length c1_1] rfl (by (try simp only [m1,m2,m3]);first|done|rfl) ?_;(with_reducible refine (laws_eqByteS.calls k _ _ l0_1 _ _ l1_1 true _ ?side1 ?side2 ?side3 ?side4 A5.out).mono ?_);(case side1=>exact cb (Kd.C_below HR0_1.out (by repeat first|exact HB.out|apply qh|apply qi|apply qj|refine bk ?_)));(case side2=>exact HC0_1.out);(case side3=>exact cb (Kd.C_below HR1_1.out (by repeat first|exact HB.out|apply qh|apply qi|apply qj|refine bk ?_)));(case side4=>exact HC1_1.out);rintro e w' ⟨rfl,⟨nd,rfl⟩⟩;refine ⟨_,rfl,?_⟩)|((with_reducible refine gate_callee (f:=17) rfl ?_);refine goesL_ (some 21) rfl rfl Try.func17 (by kernel_rfl) rfl #[.slice A0_2 l0_2.length c0_2, .slice A1_2 l1_2.length c1_2] rfl (by (try simp only [m1,m2,m3]);first|done|rfl) ?_;(with_reducible refine (laws_eqByteS.calls k _ _ l0_2 _ _ l1_2 true _ ?side1 ?side2 ?side3 ?side4 A7.out).mono ?_);(case side1=>exact cb (Kd.C_below HR0_2.out (by repeat first|exact HB.out|apply qh|apply qi|apply qj|refine bk ?_)));(case side2=>exact HC0_2.out);(case side3=>exact cb (Kd.C_below HR1_2.out (by repeat first|exact HB.out|apply qh|apply qi|apply qj|refine bk ?_)));(case side4=>exact HC1_2.out);rintro e w' ⟨rfl,⟨nd,rfl⟩⟩;refine ⟨_,rfl,?_⟩)|((with_reducible refine gate_callee (f:=17) rfl ?_);refine goesL_ (some 27) rfl rfl Try.func17 (by kernel_rfl) rfl #[.slice A0_3 l0_3.length c0_3, .slice A1_3 l1_3.length c1_3] rfl (by (try simp only [m1,m2,m3]);first|done|rfl) ?_;(with_reducible refine (laws_eqByteS.calls k _ _ l0_3 _ _ l1_3 false _ ?side1 ?side2 ?side3 ?side4 A9.out).mono ?_);(case side1=>exact cb (Kd.C_below HR0_3.out (by repeat first|exact HB.out|apply qh|apply qi|apply qj|refine bk ?_)));(case side2=>exact HC0_3.out);(case side3=>exact cb (Kd.C_below HR1_3.out (by repeat first|exact HB.out|apply qh|apply qi|apply qj|refine bk ?_)));(case side4=>exact HC1_3.out);rintro e w' ⟨rfl,⟨nd,rfl⟩⟩;refine ⟨_,rfl,?_⟩))
    go_ret
    exact ⟨by first|rfl|(simp <;> rfl)|(simp [*] <;> rfl),by repeat (first|(with_reducible first|exact HB.out|apply qh|apply qi|apply qj|refine qk ?_ GE130.out|refine qk ?_ GE131.out)|exact HB.out)⟩
   replace c8:=Bool.eq_false_iff.mpr c8
   subst c8
   rw [if_neg nt] at H
   obtain rfl:=Option.some.inj H
   go_enter Try.func28,Try.ntmps28
   go_wp2_with (first|((with_reducible refine gate_dst (N:=2) rfl ?_);refine box_event (by rfl) (N:=2) (by rfl) (cs:=#[.slice A0_0 l0_0.length c0_0, .slice A0_1 l0_1.length c0_1, .slice A0_2 l0_2.length c0_2, .slice A0_3 l0_3.length c0_3]) (t:=33) (by first|(go_simp;done)|(go_simp;rfl)) ?_;intro gb130 hg w21 hbox hb;have _:=qm (qt HB.out hb);have _:=qm (hbox);have _:=qm ((gs hg (qs HB.out)));have _:=qm ((gs hg (qs HB.out)));clear HB;rename_i HB BK130 GW130 GE130;clear hb hbox hg)|((with_reducible refine gate_dst (N:=3) rfl ?_);refine box_event (by rfl) (N:=3) (by rfl) (cs:=#[.slice A1_0 l1_0.length c1_0, .slice A1_1 l1_1.length c1_1, .slice A1_2 l1_2.length c1_2, .slice A1_3 l1_3.length c1_3]) (t:=33) (by first|(go_simp;done)|(go_simp;rfl)) ?_;intro gb131 hg w22 hbox hb;have _:=qm (qv (g:=gb130) BK130.out hb);have _:=qm (qt (by repeat first|exact HB.out|apply qh|apply qi|apply qj|refine bk ?_) hb);have _:=qm (hbox);have _:=qm ((gs hg (qs (by repeat first|exact HB.out|apply qh|apply qi|apply qj|refine bk ?_))));have _:=qm ((gs hg (qs (by repeat first|exact HB.out|apply qh|apply qi|apply qj|refine bk ?_))));have _:=qm ((na hg BK130.out));have _:=qm ((nb hg BK130.out));clear BK130 HB;rename_i BK130 HB BK131 GW131 GE131 NB130_131 NB131_130;clear hb hbox hg;have hnb23:=NB130_131.out;have hnc23:=NB131_130.out;obtain ⟨_,_,_,_,_,_,_,_⟩:=fc4 BK130.out;obtain ⟨_,_,_,_,_,_,_,_⟩:=fc4 BK131.out)|((with_reducible refine gate_callee (f:=17) rfl ?_);refine goesL_ (some 9) rfl rfl Try.func17 (by kernel_rfl) rfl #[.slice A0_0 l0_0.length c0_0, .slice A1_0 l1_0.length c1_0] rfl (by (try simp only [m1,m2,m3]);first|done|rfl) ?_;(with_reducible refine (laws_eqByteS.calls k _ _ l0_0 _ _ l1_0 true _ ?side1 ?side2 ?side3 ?side4 A3.out).mono ?_);(case side1=>exact cb (Kd.C_below HR0_0.out HB.out));(case side2=>exact HC0_0.out);(case side3=>exact cb (Kd.C_below HR1_0.out HB.out));(case side4=>exact HC1_0.out);rintro e w' ⟨rfl,⟨nd,rfl⟩⟩;refine ⟨_,rfl,?_⟩)|((with_reducible refine gate_callee (f:=17) rfl ?_);refine goesL_ (some 15) rfl rfl Try.func17 (by kernel_rfl) rfl #[.slice A0_1 l0_1.length c0_1, .slice A1_1 l1_1.length c1_1] rfl (by (try simp only [m1,m2,m3]);first|done|rfl) ?_;(with_reducible refine (laws_eqByteS.calls k _ _ l0_1 _ _ l1_1 true _ ?side1 ?side2 ?side3 ?side4 A5.out).mono ?_);(case side1=>exact cb (Kd.C_below HR0_1.out (by repeat first|exact HB.out|apply qh|apply qi|apply qj|refine bk ?_)));(case side2=>exact HC0_1.out);(case side3=>exact cb (Kd.C_below HR1_1.out (by repeat first|exact HB.out|apply qh|apply qi|apply qj|refine bk ?_)));(case side4=>exact HC1_1.out);rintro e w' ⟨rfl,⟨nd,rfl⟩⟩;refine ⟨_,rfl,?_⟩)|((with_reducible refine gate_callee (f:=17) rfl ?_);refine goesL_ (some 21) rfl rfl Try.func17 (by kernel_rfl) rfl #[.slice A0_2 l0_2.length c0_2, .slice A1_2 l1_2.length c1_2] rfl (by (try simp only [m1,m2,m3]);first|done|rfl) ?_;(with_reducible refine (laws_eqByteS.calls k _ _ l0_2 _ _ l1_2 false _ ?side1 ?side2 ?side3 ?side4 A7.out).mono ?_);(case side1=>exact cb (Kd.C_below HR0_2.out (by repeat first|exact HB.out|apply qh|apply qi|apply qj|refine bk ?_)));(case side2=>exact HC0_2.out);(case side3=>exact cb (Kd.C_below HR1_2.out (by repeat first|exact HB.out|apply qh|apply qi|apply qj|refine bk ?_)));(case side4=>exact HC1_2.out);rintro e w' ⟨rfl,⟨nd,rfl⟩⟩;refine ⟨_,rfl,?_⟩))
   go_ret
   exact ⟨by first|rfl|(simp <;> rfl)|(simp [*] <;> rfl),by repeat (first|(with_reducible first|exact HB.out|apply qh|apply qi|apply qj|refine qk ?_ GE130.out|refine qk ?_ GE131.out)|exact HB.out)⟩
  replace c6:=Bool.eq_false_iff.mpr c6
  subst c6
  rw [if_neg nt] at H
  obtain rfl:=Option.some.inj H
  go_enter Try.func28,Try.ntmps28
  go_wp2_with (first|((with_reducible refine gate_dst (N:=2) rfl ?_);refine box_event (by rfl) (N:=2) (by rfl) (cs:=#[.slice A0_0 l0_0.length c0_0, .slice A0_1 l0_1.length c0_1, .slice A0_2 l0_2.length c0_2, .slice A0_3 l0_3.length c0_3]) (t:=33) (by first|(go_simp;done)|(go_simp;rfl)) ?_;intro gb130 hg w26 hbox hb;have _:=qm (qt HB.out hb);have _:=qm (hbox);have _:=qm ((gs hg (qs HB.out)));have _:=qm ((gs hg (qs HB.out)));clear HB;rename_i HB BK130 GW130 GE130;clear hb hbox hg)|((with_reducible refine gate_dst (N:=3) rfl ?_);refine box_event (by rfl) (N:=3) (by rfl) (cs:=#[.slice A1_0 l1_0.length c1_0, .slice A1_1 l1_1.length c1_1, .slice A1_2 l1_2.length c1_2, .slice A1_3 l1_3.length c1_3]) (t:=33) (by first|(go_simp;done)|(go_simp;rfl)) ?_;intro gb131 hg w27 hbox hb;have _:=qm (qv (g:=gb130) BK130.out hb);have _:=qm (qt (by repeat first|exact HB.out|apply qh|apply qi|apply qj|refine bk ?_) hb);have _:=qm (hbox);have _:=qm ((gs hg (qs (by repeat first|exact HB.out|apply qh|apply qi|apply qj|refine bk ?_))));have _:=qm ((gs hg (qs (by repeat first|exact HB.out|apply qh|apply qi|apply qj|refine bk ?_))));have _:=qm ((na hg BK130.out));have _:=qm ((nb hg BK130.out));clear BK130 HB;rename_i BK130 HB BK131 GW131 GE131 NB130_131 NB131_130;clear hb hbox hg;have hnb28:=NB130_131.out;have hnc28:=NB131_130.out;obtain ⟨_,_,_,_,_,_,_,_⟩:=fc4 BK130.out;obtain ⟨_,_,_,_,_,_,_,_⟩:=fc4 BK131.out)|((with_reducible refine gate_callee (f:=17) rfl ?_);refine goesL_ (some 9) rfl rfl Try.func17 (by kernel_rfl) rfl #[.slice A0_0 l0_0.length c0_0, .slice A1_0 l1_0.length c1_0] rfl (by (try simp only [m1,m2,m3]);first|done|rfl) ?_;(with_reducible refine (laws_eqByteS.calls k _ _ l0_0 _ _ l1_0 true _ ?side1 ?side2 ?side3 ?side4 A3.out).mono ?_);(case side1=>exact cb (Kd.C_below HR0_0.out HB.out));(case side2=>exact HC0_0.out);(case side3=>exact cb (Kd.C_below HR1_0.out HB.out));(case side4=>exact HC1_0.out);rintro e w' ⟨rfl,⟨nd,rfl⟩⟩;refine ⟨_,rfl,?_⟩)|((with_reducible refine gate_callee (f:=17) rfl ?_);refine goesL_ (some 15) rfl rfl Try.func17 (by kernel_rfl) rfl #[.slice A0_1 l0_1.length c0_1, .slice A1_1 l1_1.length c1_1] rfl (by (try simp only [m1,m2,m3]);first|done|rfl) ?_;(with_reducible refine (laws_eqByteS.calls k _ _ l0_1 _ _ l1_1 false _ ?side1 ?side2 ?side3 ?side4 A5.out).mono ?_);(case side1=>exact cb (Kd.C_below HR0_1.out (by repeat first|exact HB.out|apply qh|apply qi|apply qj|refine bk ?_)));(case side2=>exact HC0_1.out);(case side3=>exact cb (Kd.C_below HR1_1.out (by repeat first|exact HB.out|apply qh|apply qi|apply qj|refine bk ?_)));(case side4=>exact HC1_1.out);rintro e w' ⟨rfl,⟨nd,rfl⟩⟩;refine ⟨_,rfl,?_⟩))
  go_ret
  exact ⟨by first|rfl|(simp <;> rfl)|(simp [*] <;> rfl),by repeat (first|(with_reducible first|exact HB.out|apply qh|apply qi|apply qj|refine qk ?_ GE130.out|refine qk ?_ GE131.out)|exact HB.out)⟩
 replace c4:=Bool.eq_false_iff.mpr c4
 subst c4
 rw [if_neg nt] at H
 obtain rfl:=Option.some.inj H
 go_enter Try.func28,Try.ntmps28
 go_wp2_with (first|((with_reducible refine gate_dst (N:=2) rfl ?_);refine box_event (by rfl) (N:=2) (by rfl) (cs:=#[.slice A0_0 l0_0.length c0_0, .slice A0_1 l0_1.length c0_1, .slice A0_2 l0_2.length c0_2, .slice A0_3 l0_3.length c0_3]) (t:=33) (by first|(go_simp;done)|(go_simp;rfl)) ?_;intro gb130 hg w31 hbox hb;have _:=qm (qt HB.out hb);have _:=qm (hbox);have _:=qm ((gs hg (qs HB.out)));have _:=qm ((gs hg (qs HB.out)));clear HB;rename_i HB BK130 GW130 GE130;clear hb hbox hg)|((with_reducible refine gate_dst (N:=3) rfl ?_);refine box_event (by rfl) (N:=3) (by rfl) (cs:=#[.slice A1_0 l1_0.length c1_0, .slice A1_1 l1_1.length c1_1, .slice A1_2 l1_2.length c1_2, .slice A1_3 l1_3.length c1_3]) (t:=33) (by first|(go_simp;done)|(go_simp;rfl)) ?_;intro gb131 hg w32 hbox hb;have _:=qm (qv (g:=gb130) BK130.out hb);have _:=qm (qt (by repeat first|exact HB.out|apply qh|apply qi|apply qj|refine bk ?_) hb);have _:=qm (hbox);have _:=qm ((gs hg (qs (by repeat first|exact HB.out|apply qh|apply qi|apply qj|refine bk ?_))));have _:=qm ((gs hg (qs (by repeat first|exact HB.out|apply qh|apply qi|apply qj|refine bk ?_))));have _:=qm ((na hg BK130.out));have _:=qm ((nb hg BK130.out));clear BK130 HB;rename_i BK130 HB BK131 GW131 GE131 NB130_131 NB131_130;clear hb hbox hg;have hnb33:=NB130_131.out;have hnc33:=NB131_130.out;obtain ⟨_,_,_,_,_,_,_,_⟩:=fc4 BK130.out;obtain ⟨_,_,_,_,_,_,_,_⟩:=fc4 BK131.out)|((with_reducible refine gate_callee (f:=17) rfl ?_);refine goesL_ (some 9) rfl rfl Try.func17 (by kernel_rfl) rfl #[.slice A0_0 l0_0.length c0_0, .slice A1_0 l1_0.length c1_0] rfl (by (try simp only [m1,m2,m3]);first|done|rfl) ?_;(with_reducible refine (laws_eqByteS.calls k _ _ l0_0 _ _ l1_0 false _ ?side1 ?side2 ?side3 ?side4 A3.out).mono ?_);(case side1=>exact cb (Kd.C_below HR0_0.out HB.out));(case side2=>exact HC0_0.out);(case side3=>exact cb (Kd.C_below HR1_0.out HB.out));(case side4=>exact HC1_0.out);rintro e w' ⟨rfl,⟨nd,rfl⟩⟩;refine ⟨_,rfl,?_⟩))
 go_ret
 exact ⟨by first|rfl|(simp <;> rfl)|(simp [*] <;> rfl),by repeat (first|(with_reducible first|exact HB.out|apply qh|apply qi|apply qj|refine qk ?_ GE130.out|refine qk ?_ GE131.out)|exact HB.out)⟩
def laws_markKeys.f (k:Nat) (l0_0:List Int) (l0_1:List Int) (l0_2:List Int) (l0_3:List Int) (a1:Int):Option (Int×List Int×List Int×List Int×List Int):=(laws_markByteS.f k l0_0 a1).bind fun bt137=>((laws_markByteS.f k l0_1 bt137.1).bind fun bt139=>((laws_markByteS.f k l0_2 bt139.1).bind fun bt141=>((laws_markByteS.f k l0_3 bt141.1).bind fun bt143=>(some (bt143.1,bt137.2,bt139.2,bt141.2,bt143.2)))))
set_option maxHeartbeats 8000000 in
set_option maxRecDepth 100000 in
theorem laws_markKeys.calls (k:Nat) (P0_0_:Nat→Prop) (u9000_:Value) (l0_0:List Int) (P0_1_:Nat→Prop) (u9001_:Value) (l0_1:List Int) (P0_2_:Nat→Prop) (u9002_:Value) (l0_2:List Int) (P0_3_:Nat→Prop) (u9003_:Value) (l0_3:List Int) (a1:Int) (r1:Int) (r2:List Int) (r3:List Int) (r4:List Int) (r5:List Int) (w0 w:World) (hB:Below w0.heap.size w0 w) (ho0_0:Kd.R (Kd.int .u8) 5 w w0.heap.size P0_0_ u9000_ l0_0) (hp0_0_0_1:∀ k_,P0_0_ k_→¬ P0_1_ k_) (hp0_0_0_2:∀ k_,P0_0_ k_→¬ P0_2_ k_) (hp0_0_0_3:∀ k_,P0_0_ k_→¬ P0_3_ k_) (ho0_1:Kd.R (Kd.int .u8) 5 w w0.heap.size P0_1_ u9001_ l0_1) (hp0_1_0_0:∀ k_,P0_1_ k_→¬ P0_0_ k_) (hp0_1_0_2:∀ k_,P0_1_ k_→¬ P0_2_ k_) (hp0_1_0_3:∀ k_,P0_1_ k_→¬ P0_3_ k_) (ho0_2:Kd.R (Kd.int .u8) 5 w w0.heap.size P0_2_ u9002_ l0_2) (hp0_2_0_0:∀ k_,P0_2_ k_→¬ P0_0_ k_) (hp0_2_0_1:∀ k_,P0_2_ k_→¬ P0_1_ k_) (hp0_2_0_3:∀ k_,P0_2_ k_→¬ P0_3_ k_) (ho0_3:Kd.R (Kd.int .u8) 5 w w0.heap.size P0_3_ u9003_ l0_3) (hp0_3_0_0:∀ k_,P0_3_ k_→¬ P0_0_ k_) (hp0_3_0_1:∀ k_,P0_3_ k_→¬ P0_1_ k_) (hp0_3_0_2:∀ k_,P0_3_ k_→¬ P0_2_ k_) (h:laws_markKeys.f k l0_0 l0_1 l0_2 l0_3 a1=some (r1,r2,r3,r4,r5)) :
  Calls Try.prog 29 #[.agg #[u9000_,u9001_,u9002_,u9003_], .int .i64 a1] w fun e w' =>e = .returned (.int .i64 r1)∧Kd.R (Kd.int .u8) 5 w' w0.heap.size (fun k_=>((P0_0_ k_∨P0_1_ k_∨P0_2_ k_∨P0_3_ k_)∨w.heap.size≤k_)) u9000_ r2∧Kd.R (Kd.int .u8) 5 w' w0.heap.size (fun k_=>((P0_0_ k_∨P0_1_ k_∨P0_2_ k_∨P0_3_ k_)∨w.heap.size≤k_)) u9001_ r3∧Kd.R (Kd.int .u8) 5 w' w0.heap.size (fun k_=>((P0_0_ k_∨P0_1_ k_∨P0_2_ k_∨P0_3_ k_)∨w.heap.size≤k_)) u9002_ r4∧Kd.R (Kd.int .u8) 5 w' w0.heap.size (fun k_=>((P0_0_ k_∨P0_1_ k_∨P0_2_ k_∨P0_3_ k_)∨w.heap.size≤k_)) u9003_ r5∧Below w0.heap.size w0 w' ∧Kept w w' (fun k_=>P0_0_ k_∨P0_1_ k_∨P0_2_ k_∨P0_3_ k_):=by
 have hu33:=Try.underlying33
 have HO0_0:=qm (show Kd.R (Kd.int .u8) 5 w w0.heap.size (fun k_=>((P0_0_ k_∨P0_1_ k_∨P0_2_ k_∨P0_3_ k_)∨w.heap.size≤k_)∧ob k_ u9001_∧ob k_ u9002_∧ob k_ u9003_) u9000_ l0_0 from qg ho0_0 (fun k_ hk=>⟨(.inl (.inl hk)),fun e_=>hp0_0_0_1 k_ hk (ho0_1.1 k_ e_.symm),fun e_=>hp0_0_0_2 k_ hk (ho0_2.1 k_ e_.symm),fun e_=>hp0_0_0_3 k_ hk (ho0_3.1 k_ e_.symm)⟩))
 have HO0_1:=qm (show Kd.R (Kd.int .u8) 5 w w0.heap.size (fun k_=>((P0_0_ k_∨P0_1_ k_∨P0_2_ k_∨P0_3_ k_)∨w.heap.size≤k_)∧ob k_ u9000_∧ob k_ u9002_∧ob k_ u9003_) u9001_ l0_1 from qg ho0_1 (fun k_ hk=>⟨(.inl (.inr (.inl hk))),fun e_=>hp0_1_0_0 k_ hk (ho0_0.1 k_ e_.symm),fun e_=>hp0_1_0_2 k_ hk (ho0_2.1 k_ e_.symm),fun e_=>hp0_1_0_3 k_ hk (ho0_3.1 k_ e_.symm)⟩))
 have HO0_2:=qm (show Kd.R (Kd.int .u8) 5 w w0.heap.size (fun k_=>((P0_0_ k_∨P0_1_ k_∨P0_2_ k_∨P0_3_ k_)∨w.heap.size≤k_)∧ob k_ u9000_∧ob k_ u9001_∧ob k_ u9003_) u9002_ l0_2 from qg ho0_2 (fun k_ hk=>⟨(.inl (.inr (.inr (.inl hk)))),fun e_=>hp0_2_0_0 k_ hk (ho0_0.1 k_ e_.symm),fun e_=>hp0_2_0_1 k_ hk (ho0_1.1 k_ e_.symm),fun e_=>hp0_2_0_3 k_ hk (ho0_3.1 k_ e_.symm)⟩))
 have HO0_3:=qm (show Kd.R (Kd.int .u8) 5 w w0.heap.size (fun k_=>((P0_0_ k_∨P0_1_ k_∨P0_2_ k_∨P0_3_ k_)∨w.heap.size≤k_)∧ob k_ u9000_∧ob k_ u9001_∧ob k_ u9002_) u9003_ l0_3 from qg ho0_3 (fun k_ hk=>⟨(.inl (.inr (.inr (.inr hk)))),fun e_=>hp0_3_0_0 k_ hk (ho0_0.1 k_ e_.symm),fun e_=>hp0_3_0_1 k_ hk (ho0_1.1 k_ e_.symm),fun e_=>hp0_3_0_2 k_ hk (ho0_2.1 k_ e_.symm)⟩))
 have HK:=qm (Kept.refl w (fun k_=>P0_0_ k_∨P0_1_ k_∨P0_2_ k_∨P0_3_ k_))
 have HW0:=qm hB.size
 have HB:=qm hB
 clear hB
 have H:((laws_markByteS.f k l0_0 a1).bind fun bt137=>((laws_markByteS.f k l0_1 bt137.1).bind fun bt139=>((laws_markByteS.f k l0_2 bt139.1).bind fun bt141=>((laws_markByteS.f k l0_3 bt141.1).bind fun bt143=>(some (bt143.1,bt137.2,bt139.2,bt141.2,bt143.2))))))=some (r1,r2,r3,r4,r5):=h
 clear h
 replace H:=Option.bind_eq_some_iff.mp H
 obtain ⟨⟨t137,t138⟩,A30,H⟩:=H
 try dsimp only at H
 have A3:=qm A30
 clear A30
 replace H:=Option.bind_eq_some_iff.mp H
 obtain ⟨⟨t139,t140⟩,A40,H⟩:=H
 try dsimp only at H
 have A4:=qm A40
 clear A40
 replace H:=Option.bind_eq_some_iff.mp H
 obtain ⟨⟨t141,t142⟩,A50,H⟩:=H
 try dsimp only at H
 have A5:=qm A50
 clear A50
 replace H:=Option.bind_eq_some_iff.mp H
 obtain ⟨⟨t143,t144⟩,A60,H⟩:=H
 try dsimp only at H
 have A6:=qm A60
 clear A60
 simp only [Option.some.injEq,Prod.mk.injEq] at H
 obtain ⟨rfl,rfl,rfl,rfl,rfl⟩:=H
 obtain ⟨Ao7,co7,eo7⟩:=Kd.R_slice HO0_0.out
 subst eo7
 obtain ⟨Ao8,co8,eo8⟩:=Kd.R_slice HO0_1.out
 subst eo8
 obtain ⟨Ao9,co9,eo9⟩:=Kd.R_slice HO0_2.out
 subst eo9
 obtain ⟨Ao10,co10,eo10⟩:=Kd.R_slice HO0_3.out
 subst eo10
 go_enter Try.func29,Try.ntmps29
 go_wp2_with (first|((with_reducible refine gate_dst (N:=2) rfl ?_);refine box_event (by rfl) (N:=2) (by rfl) (cs:=#[.slice Ao7 l0_0.length co7, .slice Ao8 l0_1.length co8, .slice Ao9 l0_2.length co9, .slice Ao10 l0_3.length co10]) (t:=33) (by first|(go_simp;done)|(go_simp;rfl)) ?_;intro gb136 hg w11 hbox hb;have _:=qm (qf HO0_0.out hb);have _:=qm (qf HO0_1.out hb);have _:=qm (qf HO0_2.out hb);have _:=qm (qf HO0_3.out hb);have _:=qm (Kept.below (S:=(fun k_=>P0_0_ k_∨P0_1_ k_∨P0_2_ k_∨P0_3_ k_)) (by repeat (first|(with_reducible first|exact HK.out|apply Kept.alloc|apply Kept.drewN|apply Kept.drew)|exact HK.out)) hb);have _:=qm (qt HB.out hb);have _:=qm (hbox);have _:=qm ((gs hg (by first|exact HK.out.1|exact (show Kept w _ (fun k_=>P0_0_ k_∨P0_1_ k_∨P0_2_ k_∨P0_3_ k_) from by repeat (first|(with_reducible first|exact HK.out|apply Kept.alloc|apply Kept.drewN|apply Kept.drew)|exact HK.out)).1)));have _:=qm ((by rw [hg];exact (qs HB.out):w0.heap.size≤gb136));clear HO0_0 HO0_1 HO0_2 HO0_3 HK HB;rename_i HO0_0 HO0_1 HO0_2 HO0_3 HK HB BK136 GW136 GE136;clear hb hbox hg;obtain ⟨_,_,_,_,_,_,_,_⟩:=fc4 BK136.out)|((with_reducible refine gate_callee (f:=18) rfl ?_);refine goesL_ (some 8) rfl rfl Try.func18 (by kernel_rfl) rfl #[.slice Ao7 l0_0.length co7, .int .i64 a1] rfl (by (try simp only [m1,m2,m3]);first|done|rfl) ?_;(with_reducible refine (laws_markByteS.calls k (fun k_=>some k_=(.slice Ao7 l0_0.length co7:Value).ownBlock) (.slice Ao7 l0_0.length co7) l0_0 a1 t137 t138 w0 _ ?side1 ?side2 A3.out).mono ?_);(case side1=>repeat (first|(with_reducible first|exact HB.out|apply qh|apply qi|apply qj|refine qk ?_ GE136.out)|exact HB.out));(case side2=>exact Kd.R_tight rfl HO0_0.out);rintro e w13 ⟨rfl,hy0,hb,hkp⟩;refine ⟨_,rfl,?_⟩;have _:=qm (Kd.R_reok rfl hy0 (fun k_ e_=>HO0_0.out.1 k_ e_));have _:=qm (qg (ok' :=fun k_=>((P0_0_ k_∨P0_1_ k_∨P0_2_ k_∨P0_3_ k_)∨w.heap.size≤k_)∧ob k_ (.slice Ao7 l0_0.length co7)∧ob k_ (.slice Ao9 l0_2.length co9)∧ob k_ (.slice Ao10 l0_3.length co10)) (Kd.R_keptB (HO0_1.out) hkp (fun k_ hk_ hs_=>(hk_.2.1) hs_)) (fun k_ hk_=>⟨hk_.1.1,hk_.1.2.1,hk_.1.2.2.1,hk_.1.2.2.2⟩));have _:=qm (qg (ok' :=fun k_=>((P0_0_ k_∨P0_1_ k_∨P0_2_ k_∨P0_3_ k_)∨w.heap.size≤k_)∧ob k_ (.slice Ao7 l0_0.length co7)∧ob k_ (.slice Ao8 l0_1.length co8)∧ob k_ (.slice Ao10 l0_3.length co10)) (Kd.R_keptB (HO0_2.out) hkp (fun k_ hk_ hs_=>(hk_.2.1) hs_)) (fun k_ hk_=>⟨hk_.1.1,hk_.1.2.1,hk_.1.2.2.1,hk_.1.2.2.2⟩));have _:=qm (qg (ok' :=fun k_=>((P0_0_ k_∨P0_1_ k_∨P0_2_ k_∨P0_3_ k_)∨w.heap.size≤k_)∧ob k_ (.slice Ao7 l0_0.length co7)∧ob k_ (.slice Ao8 l0_1.length co8)∧ob k_ (.slice Ao9 l0_2.length co9)) (Kd.R_keptB (HO0_3.out) hkp (fun k_ hk_ hs_=>(hk_.2.1) hs_)) (fun k_ hk_=>⟨hk_.1.1,hk_.1.2.1,hk_.1.2.2.1,hk_.1.2.2.2⟩));have _:=qm (blk_kept BK136.out hkp (fun hs_=>(fun e_=>(Kd.R_ne HO0_0.out BK136.out (by decide)) e_) hs_));have _:=qm (Kept.then_ (S:=(fun k_=>P0_0_ k_∨P0_1_ k_∨P0_2_ k_∨P0_3_ k_)) (by repeat (first|(with_reducible first|exact HK.out|apply Kept.alloc|apply Kept.drewN|apply Kept.drew|refine Kept.setCell ?_ (.inr GW136.out) _)|exact HK.out)) hkp (fun k_ hs_=>(fun e_=>(HO0_0.out.1 k_ e_.symm).1) hs_));have _:=qm (hb);clear HO0_0 HO0_1 HO0_2 HO0_3 BK136 HK HB;rename_i HO0_0 HO0_1 HO0_2 HO0_3 BK136 HK HB;(try clear hy0);obtain ⟨_,_,_,_,_,_,_,_⟩:=fc4 BK136.out)|((with_reducible refine gate_callee (f:=18) rfl ?_);refine goesL_ (some 12) rfl rfl Try.func18 (by kernel_rfl) rfl #[.slice Ao8 l0_1.length co8, .int .i64 t137] rfl (by (try simp only [m1,m2,m3]);first|done|rfl) ?_;(with_reducible refine (laws_markByteS.calls k (fun k_=>some k_=(.slice Ao8 l0_1.length co8:Value).ownBlock) (.slice Ao8 l0_1.length co8) l0_1 t137 t139 t140 w0 _ ?side1 ?side2 A4.out).mono ?_);(case side1=>repeat (first|(with_reducible first|exact HB.out|apply qh|apply qi|apply qj|refine qk ?_ GE136.out)|exact HB.out));(case side2=>exact Kd.R_tight rfl HO0_1.out);rintro e w15 ⟨rfl,hy0,hb,hkp⟩;refine ⟨_,rfl,?_⟩;have _:=qm (qg (ok' :=fun k_=>((P0_0_ k_∨P0_1_ k_∨P0_2_ k_∨P0_3_ k_)∨w.heap.size≤k_)∧ob k_ (.slice Ao8 l0_1.length co8)∧ob k_ (.slice Ao9 l0_2.length co9)∧ob k_ (.slice Ao10 l0_3.length co10)) (Kd.R_keptB (HO0_0.out) hkp (fun k_ hk_ hs_=>(hk_.2.1) hs_)) (fun k_ hk_=>⟨hk_.1.1,hk_.1.2.1,hk_.1.2.2.1,hk_.1.2.2.2⟩));have _:=qm (Kd.R_reok rfl hy0 (fun k_ e_=>HO0_1.out.1 k_ e_));have _:=qm (qg (ok' :=fun k_=>((P0_0_ k_∨P0_1_ k_∨P0_2_ k_∨P0_3_ k_)∨w.heap.size≤k_)∧ob k_ (.slice Ao7 l0_0.length co7)∧ob k_ (.slice Ao8 l0_1.length co8)∧ob k_ (.slice Ao10 l0_3.length co10)) (Kd.R_keptB (HO0_2.out) hkp (fun k_ hk_ hs_=>(hk_.2.2.1) hs_)) (fun k_ hk_=>⟨hk_.1.1,hk_.1.2.1,hk_.1.2.2.1,hk_.1.2.2.2⟩));have _:=qm (qg (ok' :=fun k_=>((P0_0_ k_∨P0_1_ k_∨P0_2_ k_∨P0_3_ k_)∨w.heap.size≤k_)∧ob k_ (.slice Ao7 l0_0.length co7)∧ob k_ (.slice Ao8 l0_1.length co8)∧ob k_ (.slice Ao9 l0_2.length co9)) (Kd.R_keptB (HO0_3.out) hkp (fun k_ hk_ hs_=>(hk_.2.2.1) hs_)) (fun k_ hk_=>⟨hk_.1.1,hk_.1.2.1,hk_.1.2.2.1,hk_.1.2.2.2⟩));have _:=qm (blk_kept BK136.out hkp (fun hs_=>(fun e_=>(Kd.R_ne HO0_1.out BK136.out (by decide)) e_) hs_));have _:=qm (Kept.then_ (S:=(fun k_=>P0_0_ k_∨P0_1_ k_∨P0_2_ k_∨P0_3_ k_)) (by repeat (first|(with_reducible first|exact HK.out|apply Kept.alloc|apply Kept.drewN|apply Kept.drew|refine Kept.setCell ?_ (.inr GW136.out) _)|exact HK.out)) hkp (fun k_ hs_=>(fun e_=>(HO0_1.out.1 k_ e_.symm).1) hs_));have _:=qm (hb);clear HO0_0 HO0_1 HO0_2 HO0_3 BK136 HK HB;rename_i HO0_0 HO0_1 HO0_2 HO0_3 BK136 HK HB;(try clear hy0);obtain ⟨_,_,_,_,_,_,_,_⟩:=fc4 BK136.out)|((with_reducible refine gate_callee (f:=18) rfl ?_);refine goesL_ (some 16) rfl rfl Try.func18 (by kernel_rfl) rfl #[.slice Ao9 l0_2.length co9, .int .i64 t139] rfl (by (try simp only [m1,m2,m3]);first|done|rfl) ?_;(with_reducible refine (laws_markByteS.calls k (fun k_=>some k_=(.slice Ao9 l0_2.length co9:Value).ownBlock) (.slice Ao9 l0_2.length co9) l0_2 t139 t141 t142 w0 _ ?side1 ?side2 A5.out).mono ?_);(case side1=>repeat (first|(with_reducible first|exact HB.out|apply qh|apply qi|apply qj|refine qk ?_ GE136.out)|exact HB.out));(case side2=>exact Kd.R_tight rfl HO0_2.out);rintro e w17 ⟨rfl,hy0,hb,hkp⟩;refine ⟨_,rfl,?_⟩;have _:=qm (qg (ok' :=fun k_=>((P0_0_ k_∨P0_1_ k_∨P0_2_ k_∨P0_3_ k_)∨w.heap.size≤k_)∧ob k_ (.slice Ao8 l0_1.length co8)∧ob k_ (.slice Ao9 l0_2.length co9)∧ob k_ (.slice Ao10 l0_3.length co10)) (Kd.R_keptB (HO0_0.out) hkp (fun k_ hk_ hs_=>(hk_.2.2.1) hs_)) (fun k_ hk_=>⟨hk_.1.1,hk_.1.2.1,hk_.1.2.2.1,hk_.1.2.2.2⟩));have _:=qm (qg (ok' :=fun k_=>((P0_0_ k_∨P0_1_ k_∨P0_2_ k_∨P0_3_ k_)∨w.heap.size≤k_)∧ob k_ (.slice Ao7 l0_0.length co7)∧ob k_ (.slice Ao9 l0_2.length co9)∧ob k_ (.slice Ao10 l0_3.length co10)) (Kd.R_keptB (HO0_1.out) hkp (fun k_ hk_ hs_=>(hk_.2.2.1) hs_)) (fun k_ hk_=>⟨hk_.1.1,hk_.1.2.1,hk_.1.2.2.1,hk_.1.2.2.2⟩));have _:=qm (Kd.R_reok rfl hy0 (fun k_ e_=>HO0_2.out.1 k_ e_));have _:=qm (qg (ok' :=fun k_=>((P0_0_ k_∨P0_1_ k_∨P0_2_ k_∨P0_3_ k_)∨w.heap.size≤k_)∧ob k_ (.slice Ao7 l0_0.length co7)∧ob k_ (.slice Ao8 l0_1.length co8)∧ob k_ (.slice Ao9 l0_2.length co9)) (Kd.R_keptB (HO0_3.out) hkp (fun k_ hk_ hs_=>(hk_.2.2.2) hs_)) (fun k_ hk_=>⟨hk_.1.1,hk_.1.2.1,hk_.1.2.2.1,hk_.1.2.2.2⟩));have _:=qm (blk_kept BK136.out hkp (fun hs_=>(fun e_=>(Kd.R_ne HO0_2.out BK136.out (by decide)) e_) hs_));have _:=qm (Kept.then_ (S:=(fun k_=>P0_0_ k_∨P0_1_ k_∨P0_2_ k_∨P0_3_ k_)) (by repeat (first|(with_reducible first|exact HK.out|apply Kept.alloc|apply Kept.drewN|apply Kept.drew|refine Kept.setCell ?_ (.inr GW136.out) _)|exact HK.out)) hkp (fun k_ hs_=>(fun e_=>(HO0_2.out.1 k_ e_.symm).1) hs_));have _:=qm (hb);clear HO0_0 HO0_1 HO0_2 HO0_3 BK136 HK HB;rename_i HO0_0 HO0_1 HO0_2 HO0_3 BK136 HK HB;(try clear hy0);obtain ⟨_,_,_,_,_,_,_,_⟩:=fc4 BK136.out)|((with_reducible refine gate_callee (f:=18) rfl ?_);refine goesL_ (some 20) rfl rfl Try.func18 (by kernel_rfl) rfl #[.slice Ao10 l0_3.length co10, .int .i64 t141] rfl (by (try simp only [m1,m2,m3]);first|done|rfl) ?_;(with_reducible refine (laws_markByteS.calls k (fun k_=>some k_=(.slice Ao10 l0_3.length co10:Value).ownBlock) (.slice Ao10 l0_3.length co10) l0_3 t141 t143 t144 w0 _ ?side1 ?side2 A6.out).mono ?_);(case side1=>repeat (first|(with_reducible first|exact HB.out|apply qh|apply qi|apply qj|refine qk ?_ GE136.out)|exact HB.out));(case side2=>exact Kd.R_tight rfl HO0_3.out);rintro e w19 ⟨rfl,hy0,hb,hkp⟩;refine ⟨_,rfl,?_⟩;have _:=qm (qg (ok' :=fun k_=>((P0_0_ k_∨P0_1_ k_∨P0_2_ k_∨P0_3_ k_)∨w.heap.size≤k_)∧ob k_ (.slice Ao8 l0_1.length co8)∧ob k_ (.slice Ao9 l0_2.length co9)∧ob k_ (.slice Ao10 l0_3.length co10)) (Kd.R_keptB (HO0_0.out) hkp (fun k_ hk_ hs_=>(hk_.2.2.2) hs_)) (fun k_ hk_=>⟨hk_.1.1,hk_.1.2.1,hk_.1.2.2.1,hk_.1.2.2.2⟩));have _:=qm (qg (ok' :=fun k_=>((P0_0_ k_∨P0_1_ k_∨P0_2_ k_∨P0_3_ k_)∨w.heap.size≤k_)∧ob k_ (.slice Ao7 l0_0.length co7)∧ob k_ (.slice Ao9 l0_2.length co9)∧ob k_ (.slice Ao10 l0_3.length co10)) (Kd.R_keptB (HO0_1.out) hkp (fun k_ hk_ hs_=>(hk_.2.2.2) hs_)) (fun k_ hk_=>⟨hk_.1.1,hk_.1.2.1,hk_.1.2.2.1,hk_.1.2.2.2⟩));have _:=qm (qg (ok' :=fun k_=>((P0_0_ k_∨P0_1_ k_∨P0_2_ k_∨P0_3_ k_)∨w.heap.size≤k_)∧ob k_ (.slice Ao7 l0_0.length co7)∧ob k_ (.slice Ao8 l0_1.length co8)∧ob k_ (.slice Ao10 l0_3.length co10)) (Kd.R_keptB (HO0_2.out) hkp (fun k_ hk_ hs_=>(hk_.2.2.2) hs_)) (fun k_ hk_=>⟨hk_.1.1,hk_.1.2.1,hk_.1.2.2.1,hk_.1.2.2.2⟩));have _:=qm (Kd.R_reok rfl hy0 (fun k_ e_=>HO0_3.out.1 k_ e_));have _:=qm (blk_kept BK136.out hkp (fun hs_=>(fun e_=>(Kd.R_ne HO0_3.out BK136.out (by decide)) e_) hs_));have _:=qm (Kept.then_ (S:=(fun k_=>P0_0_ k_∨P0_1_ k_∨P0_2_ k_∨P0_3_ k_)) (by repeat (first|(with_reducible first|exact HK.out|apply Kept.alloc|apply Kept.drewN|apply Kept.drew|refine Kept.setCell ?_ (.inr GW136.out) _)|exact HK.out)) hkp (fun k_ hs_=>(fun e_=>(HO0_3.out.1 k_ e_.symm).1) hs_));have _:=qm (hb);clear HO0_0 HO0_1 HO0_2 HO0_3 BK136 HK HB;rename_i HO0_0 HO0_1 HO0_2 HO0_3 BK136 HK HB;(try clear hy0)))
 go_ret
 exact ⟨by first|rfl|(simp <;> rfl)|(simp [*] <;> rfl),by (with_reducible repeat (first|apply qb|apply qc|apply qd));exact qg HO0_0.out (fun _ hk=>hk.1),by (with_reducible repeat (first|apply qb|apply qc|apply qd));exact qg HO0_1.out (fun _ hk=>hk.1),by (with_reducible repeat (first|apply qb|apply qc|apply qd));exact qg HO0_2.out (fun _ hk=>hk.1),by (with_reducible repeat (first|apply qb|apply qc|apply qd));exact qg HO0_3.out (fun _ hk=>hk.1),by repeat (first|(with_reducible first|exact HB.out|apply qh|apply qi|apply qj|refine qk ?_ GE136.out)|exact HB.out),by repeat (first|(with_reducible first|exact HK.out|apply Kept.alloc|apply Kept.drewN|apply Kept.drew|refine Kept.setCell ?_ (.inr GW136.out) _)|exact HK.out)⟩
end Go.Proofs.Ytcdkbdkanjifeaa.SFnExactProtectPacket
