/- The walk of functions that the law FnExactProtectPacket uses, written by program. -/
import Derived.Test.YtcdkbdkanjifeaaSFnExactProtectPacketx0
import Derived.Lib.SmallJoins
import Derived.Test.YtcdkbdkanjifeaaSteps2
import Derived.Test.YtcdkbdkanjifeaaSteps3
namespace Go.Proofs.Ytcdkbdkanjifeaa.SFnExactProtectPacket
open Go.Proofs.Ytcdkbdkanjifeaa.Steps3 Go.Proofs.Ytcdkbdkanjifeaa.Steps2 Go.RowKit Go.Proofs.YtcdkbdkanjifeaaW.PrintWords Go.Proofs.YtcdkbdkanjifeaaW.PrintLast Go.Proofs.YtcdkbdkanjifeaaW.PrintMore
open Go.Proofs.YtcdkbdkanjifeaaW.PrintWords renaming below_alloc → qh, pw_below_drewN → qi, below_drew1 → qj, below_set → qk, below_size → qs, below_step → qt, blk_cell → qu, blk_below → qv
open Go.Proofs.YtcdkbdkanjifeaaW.PrintWords.Kd renaming R_alloc → qb, R_drewN → qc, R_drew → qd, R_reads' → qe, R_mono → qg
open Go.Proofs.YtcdkbdkanjifeaaW.PrintWords.Aside0 renaming mk → qm
attribute [local go_sem] max2_int min2_int max_two min_two max_three min_three max_four min_four 
set_option linter.unusedVariables false
set_option linter.unusedSimpArgs false
def bits_RotateLeft32.f (a0:Int) (a1:Int):Option (Int):=if 0≤(Go.bits .and .u64 (IntKind.u64.wrap (a1)) 31) then (if 0≤(IntKind.u64.wrap (32 - (Go.bits .and .u64 (IntKind.u64.wrap (a1)) 31))) then (some (Go.bits .or .u32 (shl .u32 a0 (Go.bits .and .u64 (IntKind.u64.wrap (a1)) 31)) (shr .u32 a0 (IntKind.u64.wrap (32 - (Go.bits .and .u64 (IntKind.u64.wrap (a1)) 31)))))) else (none)) else (none)
set_option maxHeartbeats 8000000 in
set_option maxRecDepth 100000 in
theorem bits_RotateLeft32.calls (a0:Int) (a1:Int) (r:Int) (w:World) (h:bits_RotateLeft32.f a0 a1=some r) :
  Calls Try.prog 87 #[.int .u32 a0, .int .i64 a1] w fun e w' =>e = .returned (.int .u32 r)∧Drawn0 w w' :=by
 have H:(if 0≤(Go.bits .and .u64 (IntKind.u64.wrap (a1)) 31) then (if 0≤(IntKind.u64.wrap (32 - (Go.bits .and .u64 (IntKind.u64.wrap (a1)) 31))) then (some (Go.bits .or .u32 (shl .u32 a0 (Go.bits .and .u64 (IntKind.u64.wrap (a1)) 31)) (shr .u32 a0 (IntKind.u64.wrap (32 - (Go.bits .and .u64 (IntKind.u64.wrap (a1)) 31)))))) else (none)) else (none))=some r:=h
 clear h
 obtain ⟨ji3,hji3⟩:∃ j_:Int,(Go.bits .and .u64 (IntKind.u64.wrap (a1)) 31)=j_:=⟨_,rfl⟩
 replace H:(if 0≤(ji3) then (if 0≤(IntKind.u64.wrap (32 - (ji3))) then (some (Go.bits .or .u32 (shl .u32 a0 (ji3)) (shr .u32 a0 (IntKind.u64.wrap (32 - (ji3)))))) else (none)) else (none))=some r:=by first|(rw [hji3] at H;exact H)|(simp only [hji3] at H ⊢;exact H)
 by_cases c4:0≤(ji3)
 ·rw [if_pos c4] at H
  have c4b0:=eq_true c4
  have c4b1:decide (0≤(ji3))=true:=decide_eq_true c4
  clear c4
  obtain ⟨ji5,hji5⟩:∃ j_:Int,(shl .u32 a0 (ji3))=j_:=⟨_,rfl⟩
  replace H:(if 0≤(IntKind.u64.wrap (32 - (ji3))) then (some (Go.bits .or .u32 (ji5) (shr .u32 a0 (IntKind.u64.wrap (32 - (ji3)))))) else (none))=some r:=by first|(rw [hji5] at H;exact H)|(simp only [hji5] at H ⊢;exact H)
  have hji5_:(IntKind.u32.wrap (a0*2 ^ min (ji3).toNat 32))=ji5:=hji5
  have hji5z:(ji3)≤32→(IntKind.u32.wrap (a0*2 ^ (ji3).toNat))=ji5:=shl_small hji5
  obtain ⟨ji6,hji6⟩:∃ j_:Int,(IntKind.u64.wrap (32 - (ji3)))=j_:=⟨_,rfl⟩
  replace H:(if 0≤(ji6) then (some (Go.bits .or .u32 (ji5) (shr .u32 a0 (ji6)))) else (none))=some r:=by first|(rw [hji6] at H;exact H)|(simp only [hji6] at H ⊢;exact H)
  by_cases c7:0≤(ji6)
  ·rw [if_pos c7] at H
   have c7b0:=eq_true c7
   have c7b1:decide (0≤(ji6))=true:=decide_eq_true c7
   clear c7
   obtain ⟨ji8,hji8⟩:∃ j_:Int,(shr .u32 a0 (ji6))=j_:=⟨_,rfl⟩
   replace H:(some (Go.bits .or .u32 (ji5) (ji8)))=some r:=by first|(rw [hji8] at H;exact H)|(simp only [hji8] at H ⊢;exact H)
   have hji8_:(a0 / 2 ^ min (ji6).toNat 32)=ji8:=hji8
   have hji8z:(ji6)≤32→(a0 / 2 ^ (ji6).toNat)=ji8:=shr_small hji8
   obtain rfl:=Option.some.inj H
   go_enter Try.func87,Try.ntmps87
   go_wp2
   go_ret
   exact ⟨by first|rfl|(simp;done)|(simp only [←hji3,←hji5,←hji6,←hji8] <;> (first|rfl|simp))|(simp [*];done),by repeat (first|exact Drawn0.refl _|apply Drawn0.step)⟩
  rw [if_neg c7] at H
  exact absurd H (by simp)
 rw [if_neg c4] at H
 exact absurd H (by simp)
def IsS79 (w0 W:World) (g:Nat) (f0:Int) (f1:Int) (f2:Int) (f3:Int):Prop:=W.heap[g]? =some (.cells #[.int .u32 f0, .int .u32 f1, .int .u32 f2, .int .u32 f3] 79 (0,0))∧w0.heap.size≤g
theorem IsS79.grown {w0 W:World} {g:Nat} {f0:Int} {f1:Int} {f2:Int} {f3:Int} {W1:World} {row:Option Nat} (h:IsS79 w0 W g f0 f1 f2 f3) (hw:W.grownBy W1 row) (hne:some g≠row):IsS79 w0 W1 g f0 f1 f2 f3:=by
 obtain ⟨hb,hg⟩:=h
 exact ⟨blk_grown hb hw hne,hg⟩
theorem IsS79.own_neN {w0 W:World} {g:Nat} {f0:Int} {f1:Int} {f2:Int} {f3:Int} {α:Type} {d:Kd α} {e:Nat} {base:Nat} {ok:Nat→Prop} {v:Value} {xs:List α} (h:IsS79 w0 W g f0 f1 f2 f3) (ho:Kd.N d e W base ok v xs) (ht:e≠79):some g≠v.ownBlock:=by
 obtain ⟨hb,hg⟩:=h
 exact Kd.N_ne ho hb ht
theorem IsS79.fresh {w0 W:World} {g:Nat} {f0:Int} {f1:Int} {f2:Int} {f3:Int} (h:IsS79 w0 W g f0 f1 f2 f3):∀ k,W.heap.size≤k→k≠g:=by
 obtain ⟨hb,hg⟩:=h
 exact Kd.freshB hb
theorem IsS79.kept {w0 W:World} {g:Nat} {f0:Int} {f1:Int} {f2:Int} {f3:Int} {W1:World} {S:Nat→Prop} (h:IsS79 w0 W g f0 f1 f2 f3) (hk:Kept W W1 S) (hne: ¬ S g):IsS79 w0 W1 g f0 f1 f2 f3:=by
 obtain ⟨hb,hg⟩:=h
 exact ⟨blk_kept hb hk hne,hg⟩
theorem IsS79.below {w0 W:World} {g:Nat} {f0:Int} {f1:Int} {f2:Int} {f3:Int} {W1:World} (h:IsS79 w0 W g f0 f1 f2 f3) (hw:Below W.heap.size W W1):IsS79 w0 W1 g f0 f1 f2 f3:=h.grown (grown_of_below hw none) (by simp)
theorem IsS79.alloc {w0 W:World} {g:Nat} {f0:Int} {f1:Int} {f2:Int} {f3:Int} (h:IsS79 w0 W g f0 f1 f2 f3) (o:Obj):IsS79 w0 (W.alloc o) g f0 f1 f2 f3:=h.below (qh (Below.refl _ _) o)
theorem IsS79.drewN {w0 W:World} {g:Nat} {f0:Int} {f1:Int} {f2:Int} {f3:Int} (h:IsS79 w0 W g f0 f1 f2 f3) (m:Nat):IsS79 w0 (W.drewN m) g f0 f1 f2 f3:=h
theorem IsS79.drew {w0 W:World} {g:Nat} {f0:Int} {f1:Int} {f2:Int} {f3:Int} (h:IsS79 w0 W g f0 f1 f2 f3):IsS79 w0 W.drew g f0 f1 f2 f3:=h
theorem IsS79.at_ {w0 W:World} {g:Nat} {f0:Int} {f1:Int} {f2:Int} {f3:Int} {w' :World} {m:Nat} (hq:W.drewN m=w') (h:IsS79 w0 W g f0 f1 f2 f3):IsS79 w0 w' g f0 f1 f2 f3:=by subst hq;exact IsS79.drewN h m
theorem IsS79.apart {w0 W:World} {g:Nat} {f0:Int} {f1:Int} {f2:Int} {f3:Int} {α:Type} {d:Kd α} {e:Nat} {base:Nat} {ok:Nat→Prop} {v:Value} {xs:List α} (h:IsS79 w0 W g f0 f1 f2 f3) (ho:d.R e W base ok v xs) (ht:∀ q,q∈e :: d.E→q≠79):d.R e W base (fun k=>ok k∧k≠g) v xs:=by
 obtain ⟨hb,hg⟩:=h
 exact Kd.R_types ho hb ht
theorem IsS79.own_ne {w0 W:World} {g:Nat} {f0:Int} {f1:Int} {f2:Int} {f3:Int} {α:Type} {d:Kd α} {e:Nat} {base:Nat} {ok:Nat→Prop} {v:Value} {xs:List α} (h:IsS79 w0 W g f0 f1 f2 f3) (ho:d.R e W base ok v xs) (ht:e≠79):some g≠v.ownBlock:=by
 obtain ⟨hb,hg⟩:=h
 exact Kd.R_ne ho hb ht
theorem IsS79.apartQ {w0 W:World} {g:Nat} {f0:Int} {f1:Int} {f2:Int} {f3:Int} {α:Type} {d:Kd α} {e:Nat} {base:Nat} {ok:Nat→Prop} {v:Value} {xs:List α} (h:IsS79 w0 W g f0 f1 f2 f3) (ho:d.Q e W base ok v xs) (ht:∀ q,q∈e :: d.E→q≠79):d.Q e W base (fun k=>ok k∧k≠g) v xs:=by
 obtain ⟨hb,hg⟩:=h
 exact Kd.Q_types ho hb ht
theorem IsS79.own_neQ {w0 W:World} {g:Nat} {f0:Int} {f1:Int} {f2:Int} {f3:Int} {α:Type} {d:Kd α} {e:Nat} {base:Nat} {ok:Nat→Prop} {v:Value} {xs:List α} (h:IsS79 w0 W g f0 f1 f2 f3) (ho:d.Q e W base ok v xs) (ht:e≠79):some g≠v.ownBlock:=by
 obtain ⟨hb,hg⟩:=h
 exact Kd.Q_ne ho hb ht
theorem IsS79.apartS {w0 W:World} {g:Nat} {f0:Int} {f1:Int} {f2:Int} {f3:Int} {α:Type} {d:Kd α} {e:Nat} {base:Nat} {ok:Nat→Prop} {v:Value} {xs:List α} (h:IsS79 w0 W g f0 f1 f2 f3) (ho:d.S e W base ok v xs) (ht:∀ q,q∈e :: d.E→q≠79):d.S e W base (fun k=>ok k∧k≠g) v xs:=by
 obtain ⟨hb,hg⟩:=h
 exact Kd.S_types ho hb ht
theorem IsS79.own_neS {w0 W:World} {g:Nat} {f0:Int} {f1:Int} {f2:Int} {f3:Int} {α:Type} {d:Kd α} {e:Nat} {base:Nat} {ok:Nat→Prop} {v:Value} {xs:List α} (h:IsS79 w0 W g f0 f1 f2 f3) (ho:d.S e W base ok v xs) (ht:e≠79):some g≠v.ownBlock:=by
 obtain ⟨hb,hg⟩:=h
 exact Kd.S_ne ho hb ht
theorem IsS79.lt {w0 W:World} {g:Nat} {f0:Int} {f1:Int} {f2:Int} {f3:Int} (h:IsS79 w0 W g f0 f1 f2 f3):g<W.heap.size:=by
 obtain ⟨hb,hg⟩:=h
 exact blk_lt hb
theorem IsS79.ge {w0 W:World} {g:Nat} {f0:Int} {f1:Int} {f2:Int} {f3:Int} (h:IsS79 w0 W g f0 f1 f2 f3):w0.heap.size≤g:=by
 obtain ⟨hb,hg⟩:=h
 exact hg
theorem IsS79.ne_blk {w0 W:World} {g:Nat} {f0:Int} {f1:Int} {f2:Int} {f3:Int} {a:Nat} {cs:Array Value} {t:TypeId} {fr:Nat×Nat} (h:IsS79 w0 W g f0 f1 f2 f3) (hb2:W.heap[a]? =some (.cells cs t fr)) (ht:t≠79):g≠a:=by
 obtain ⟨hb,hg⟩:=h
 rintro rfl
 rw [hb] at hb2
 injection hb2 with hb2
 injection hb2 with _ ht2
 exact ht ht2.symm
theorem IsS79.far {w0 W:World} {g:Nat} {f0:Int} {f1:Int} {f2:Int} {f3:Int} {p:Addr} (h:IsS79 w0 W g f0 f1 f2 f3) (hne:g≠p.block) (u:Value):IsS79 w0 (W.setCell p u) g f0 f1 f2 f3:=by
 obtain ⟨hb,hg⟩:=h
 exact ⟨blk_far hb hne u,hg⟩
theorem cellS79_0 {W:World} {g:Nat} {f0:Int} {f1:Int} {f2:Int} {f3:Int} (h:W.heap[g]? =some (.cells #[.int .u32 f0, .int .u32 f1, .int .u32 f2, .int .u32 f3] 79 (0,0))):W.cell? ⟨g,0,none⟩=some (.int .u32 f0):=(qu h 0).trans rfl
theorem IsS79.set_0 {w0 W:World} {g:Nat} {f0:Int} {f1:Int} {f2:Int} {f3:Int} (h:IsS79 w0 W g f0 f1 f2 f3) (x:Int):IsS79 w0 (W.setCell ⟨g,0,none⟩ (.int .u32 x)) g x f1 f2 f3:=by
 obtain ⟨hb,hg⟩:=h
 exact ⟨by simpa using blk_set hb 0 (.int .u32 x),hg⟩
theorem cellS79_1 {W:World} {g:Nat} {f0:Int} {f1:Int} {f2:Int} {f3:Int} (h:W.heap[g]? =some (.cells #[.int .u32 f0, .int .u32 f1, .int .u32 f2, .int .u32 f3] 79 (0,0))):W.cell? ⟨g,1,none⟩=some (.int .u32 f1):=(qu h 1).trans rfl
theorem IsS79.set_1 {w0 W:World} {g:Nat} {f0:Int} {f1:Int} {f2:Int} {f3:Int} (h:IsS79 w0 W g f0 f1 f2 f3) (x:Int):IsS79 w0 (W.setCell ⟨g,1,none⟩ (.int .u32 x)) g f0 x f2 f3:=by
 obtain ⟨hb,hg⟩:=h
 exact ⟨by simpa using blk_set hb 1 (.int .u32 x),hg⟩
theorem cellS79_2 {W:World} {g:Nat} {f0:Int} {f1:Int} {f2:Int} {f3:Int} (h:W.heap[g]? =some (.cells #[.int .u32 f0, .int .u32 f1, .int .u32 f2, .int .u32 f3] 79 (0,0))):W.cell? ⟨g,2,none⟩=some (.int .u32 f2):=(qu h 2).trans rfl
theorem IsS79.set_2 {w0 W:World} {g:Nat} {f0:Int} {f1:Int} {f2:Int} {f3:Int} (h:IsS79 w0 W g f0 f1 f2 f3) (x:Int):IsS79 w0 (W.setCell ⟨g,2,none⟩ (.int .u32 x)) g f0 f1 x f3:=by
 obtain ⟨hb,hg⟩:=h
 exact ⟨by simpa using blk_set hb 2 (.int .u32 x),hg⟩
theorem cellS79_3 {W:World} {g:Nat} {f0:Int} {f1:Int} {f2:Int} {f3:Int} (h:W.heap[g]? =some (.cells #[.int .u32 f0, .int .u32 f1, .int .u32 f2, .int .u32 f3] 79 (0,0))):W.cell? ⟨g,3,none⟩=some (.int .u32 f3):=(qu h 3).trans rfl
theorem IsS79.set_3 {w0 W:World} {g:Nat} {f0:Int} {f1:Int} {f2:Int} {f3:Int} (h:IsS79 w0 W g f0 f1 f2 f3) (x:Int):IsS79 w0 (W.setCell ⟨g,3,none⟩ (.int .u32 x)) g f0 f1 f2 x:=by
 obtain ⟨hb,hg⟩:=h
 exact ⟨by simpa using blk_set hb 3 (.int .u32 x),hg⟩
theorem IsS79.new (w0 W:World) (f0:Int) (f1:Int) (f2:Int) (f3:Int) (hB:Below w0.heap.size w0 W):IsS79 w0 (W.alloc (.cells #[.int .u32 f0, .int .u32 f1, .int .u32 f2, .int .u32 f3] 79)) W.heap.size f0 f1 f2 f3:=⟨by simpa using heap_alloc_new W _,hB.size⟩
def impl_stirrer_stir.l0:Nat→List Int→Int→Int→Int→Int→Int→Int→Option (Int×Int×Int×Int)
 |0,_,_,_,_,_,_,_=>none
 |k+1,x6,x7,x8,x1000,x1001,x1002,x1003=>if x8<x7 then (if 0≤x8 then (if x8<(x6.length:Int) then ((bits_RotateLeft32.f ((x1001+(((Go.bits .xor .u32 x1000 ((rd x6 x8)%4294967296))*16777619)%4294967296))%4294967296) 7).bind fun t482=>((bits_RotateLeft32.f (Go.bits .xor .u32 x1002 t482) 13).bind fun t483=>((bits_RotateLeft32.f ((x1003+t483)%4294967296) 17).bind fun t484=>(impl_stirrer_stir.l0 k x6 x7 (wrap64 (x8+1)) (Go.bits .xor .u32 (((Go.bits .xor .u32 x1000 ((rd x6 x8)%4294967296))*16777619)%4294967296) t484) t482 t483 t484)))) else (none)) else (none)) else (some (x1000,x1001,x1002,x1003))
def impl_stirrer_stir.f (k:Nat) (s0_0:Int) (s0_1:Int) (s0_2:Int) (s0_3:Int) (l1:List Int):Option (Int×Int×Int×Int):=impl_stirrer_stir.l0 k l1 (l1.length:Int) 0 s0_0 s0_1 s0_2 s0_3
set_option maxHeartbeats 8000000 in
set_option maxRecDepth 100000 in
theorem impl_stirrer_stir.calls (k:Nat) (g:Nat) (s0_0:Int) (s0_1:Int) (s0_2:Int) (s0_3:Int) (A1:Option Addr) (c1:Nat) (l1:List Int) (r1:Int) (r2:Int) (r3:Int) (r4:Int) (w0 w:World) (hI:IsS79 w0 w g s0_0 s0_1 s0_2 s0_3) (hB:Below w0.heap.size w0 w) (hr1:Kd.C (Kd.int .u8) w A1 l1.length l1) (hc1:l1.length≤c1) (hf1:∀ ad,A1=some ad→0<l1.length→ad.block≠g) (h:impl_stirrer_stir.f k s0_0 s0_1 s0_2 s0_3 l1=some (r1,r2,r3,r4)) :
  Calls Try.prog 79 #[.pointer (some ⟨g,0,none⟩), .slice A1 l1.length c1] w fun e w' =>e = .returned (.tuple #[])∧IsS79 w0 w' g r1 r2 r3 r4∧Below w0.heap.size w0 w' ∧KeepBut w w' g none:=by
 have HR1:=qm hr1
 have HC1:=qm hc1
 clear hr1 hc1
 have HI0:=qm hI
 have HK:=qm (KeepBut.refl w g none)
 have HL:=qm hB.size
 clear hI
 have HW0:=qm hB.size
 have HB:=qm hB
 clear hB
 have H:(impl_stirrer_stir.l0 k l1 (l1.length:Int) 0 s0_0 s0_1 s0_2 s0_3)=some (r1,r2,r3,r4):=h
 clear h
 have H' :=qm H
 clear H
 go_enter Try.func79,Try.ntmps79
 go_wp2
 go_loopg [8] k (fun kq v8 w' =>∃ (x8_1:Int) (x1000_1:Int) (x1001_1:Int) (x1002_1:Int) (x1003_1:Int),v8 = .int .i64 x8_1∧Aside0 (impl_stirrer_stir.l0 kq l1 (l1.length:Int) x8_1 x1000_1 x1001_1 x1002_1 x1003_1=some (r1,r2,r3,r4))∧Aside0 (kq≤k)∧Aside0 (IsS79 w0 w' g x1000_1 x1001_1 x1002_1 x1003_1)∧Aside0 (KeepBut w w' g none)∧Aside0 (Below w0.heap.size w0 w'))
 case atStart=>exact ⟨(0),(s0_0),(s0_1),(s0_2),(s0_3),(by first|rfl|(simp;done)|(simp [*];done)),H',⟨Nat.le_refl _⟩,⟨by repeat (first|(with_reducible first|exact HI0.out|apply IsS79.alloc|apply IsS79.drewN|apply IsS79.drew|apply IsS79.set_0|apply IsS79.set_1|apply IsS79.set_2|apply IsS79.set_3)|exact HI0.out)⟩,⟨by repeat (first|(with_reducible first|exact HK.out|apply KeepBut.set_|apply keep_drewN|apply keep_drew|apply keep_alloc)|exact HK.out)⟩,⟨HB.out⟩⟩
 case round=>
  clear H'
  try clear c1
  obtain ⟨x8_1,x1000_1,x1001_1,x1002_1,x1003_1,rfl,HA,HK1,HI0,HK,HB⟩:=hrel
  cases gk with
  |zero=>exact absurd HA.out (by simp [impl_stirrer_stir.l0])
  |succ k1=>?_
  have H:=HA.out
  clear HA
  simp only [impl_stirrer_stir.l0] at H
  by_cases c3:x8_1<(l1.length:Int)
  ·rw [if_pos c3] at H
   have c3b0:decide (x8_1<(l1.length:Int))=true:=decide_eq_true c3
   clear c3
   by_cases c4:0≤x8_1
   ·rw [if_pos c4] at H
    have c4b0:decide (0≤x8_1)=true:=decide_eq_true c4
    clear c4
    by_cases c5:x8_1<(l1.length:Int)
    ·rw [if_pos c5] at H
     have c5b0:decide (x8_1<(l1.length:Int))=true:=decide_eq_true c5
     clear c5
     replace H:=Option.bind_eq_some_iff.mp H
     obtain ⟨t482,A60,H⟩:=H
     try dsimp only at H
     have A6:=qm A60
     clear A60
     replace H:=Option.bind_eq_some_iff.mp H
     obtain ⟨t483,A70,H⟩:=H
     try dsimp only at H
     have A7:=qm A70
     clear A70
     replace H:=Option.bind_eq_some_iff.mp H
     obtain ⟨t484,A80,H⟩:=H
     try dsimp only at H
     have A8:=qm A80
     clear A80
     have H' :=qm H
     clear H
     have p481:0≤(x8_1:Int):=of_decide_eq_true (by assumption)
     have q481:x8_1<(l1.length:Int):=of_decide_eq_true (by assumption)
     obtain ⟨ad481,e481,hx481_0⟩:=Kd.at_int HR1.out x8_1 p481 q481
     cases e481
     replace hx481_0:=keep_cell HK.out hx481_0 (by first|(rw [add_block];exact hf1 _ rfl (by omega))|exact hf1 _ rfl (by omega)|exact hf1 ad481 rfl (by omega))
     replace p481:=eq_true p481
     replace q481:=eq_true q481
     obtain ⟨HGz9,hgz9⟩:=HI0.out
     have hcz9_0:=cellS79_0 HGz9
     have hcz9_1:=cellS79_1 HGz9
     have hcz9_2:=cellS79_2 HGz9
     have hcz9_3:=cellS79_3 HGz9
     have hfz9_0:=blk_frozen HGz9 0
     have hfz9_1:=blk_frozen HGz9 1
     have hfz9_2:=blk_frozen HGz9 2
     have hfz9_3:=blk_frozen HGz9 3
     clear HGz9 hgz9
     go_wp2
     clear hcz9_0 hfz9_0 hcz9_1 hfz9_1 hcz9_2 hfz9_2 hcz9_3 hfz9_3
     have m0_:Aside0 (IsS79 w0 (World.setCell wr ⟨g,0,none⟩ (.int .u32 ((((Go.bits .xor .u32 x1000_1 ((rd l1 x8_1)%4294967296))*16777619)%4294967296)))) g ((((Go.bits .xor .u32 x1000_1 ((rd l1 x8_1)%4294967296))*16777619)%4294967296)) (x1001_1) (x1002_1) (x1003_1)):=⟨IsS79.set_0 HI0.out _⟩
     have m1_:Aside0 (KeepBut w (World.setCell wr ⟨g,0,none⟩ (.int .u32 ((((Go.bits .xor .u32 x1000_1 ((rd l1 x8_1)%4294967296))*16777619)%4294967296)))) g none):=⟨by first|exact KeepBut.set_ HK.out _ _|(apply KeepBut.set_;exact HK.out)⟩
     have m2_:Aside0 (Below w0.heap.size w0 (World.setCell wr ⟨g,0,none⟩ (.int .u32 ((((Go.bits .xor .u32 x1000_1 ((rd l1 x8_1)%4294967296))*16777619)%4294967296))))):=⟨qk HB.out (IsS79.ge HI0.out)⟩
     clear HI0 HK HB
     have HI0:=m0_
     have HK:=m1_
     have HB:=m2_
     clear m0_ m1_ m2_
     generalize World.setCell wr ⟨g,0,none⟩ (.int .u32 ((((Go.bits .xor .u32 x1000_1 ((rd l1 x8_1)%4294967296))*16777619)%4294967296)))=wa at HI0 HK HB ⊢
     obtain ⟨HG_,hg_⟩:=HI0.out
     have hc_0:=cellS79_0 HG_
     have hc_1:=cellS79_1 HG_
     have hc_2:=cellS79_2 HG_
     have hc_3:=cellS79_3 HG_
     have hf_0:=blk_frozen HG_ 0
     have hf_1:=blk_frozen HG_ 1
     have hf_2:=blk_frozen HG_ 2
     have hf_3:=blk_frozen HG_ 3
     clear HG_ hg_
     refine start_ (n:=14) (S:=fun w' =>w'.cell? ⟨g,1,none⟩=some (.int .u32 (x1001_1))∧w'.cell? ⟨g,0,none⟩=some (.int .u32 ((((Go.bits .xor .u32 x1000_1 ((rd l1 x8_1)%4294967296))*16777619)%4294967296)))) (ds:=[13]) (bm 0 14) (by kernel_rfl) rfl rfl ⟨hc_1,hc_0⟩ (fun hHeld=>?_)
     clear hc_0 hf_0 hc_1 hf_1 hc_2 hf_2 hc_3 hf_3
     have m0_:Aside0 (IsS79 w0 (wa.drew) g ((((Go.bits .xor .u32 x1000_1 ((rd l1 x8_1)%4294967296))*16777619)%4294967296)) (x1001_1) (x1002_1) (x1003_1)):=⟨IsS79.drew HI0.out⟩
     have m1_:Aside0 (KeepBut w (wa.drew) g none):=⟨by first|exact keep_drew HK.out|(apply keep_drew;exact HK.out)⟩
     have m2_:Aside0 (Below w0.heap.size w0 (wa.drew)):=⟨qj HB.out⟩
     clear HI0 HK HB
     have HI0:=m0_
     have HK:=m1_
     have HB:=m2_
     clear m0_ m1_ m2_
     generalize wa.drew=wd4 at HI0 HK HB hHeld ⊢
     refine pure_ (i:=0) (N:=some 23) (v:=?_) (a' :=?_) (bm 1 14) rfl rfl (by kernel_rfl) (fun _ _ _ h=>h) (Or.inl ⟨by rfl,?_⟩) ?_ ?_
     rotate_left
     ·intro w'
      go_simp
      with_reducible rfl
     rotate_left
     ·simp only [Act.put,s1,s2,s3,i64_w,i32_w,IntKind.wrap_u32]
      rfl
     refine pure_ (i:=1) (N:=some 24) (v:=?_) (a' :=?_) (bm 2 14) rfl rfl (by kernel_rfl) (fun _ _ _ h=>h) (Or.inl ⟨by rfl,?_⟩) ?_ ?_
     rotate_left
     ·intro w'
      go_simp
      with_reducible rfl
     rotate_left
     ·simp only [Act.put,s1,s2,s3,i64_w,i32_w,IntKind.wrap_u32]
      rfl
     refine pure_ (i:=2) (N:=some 25) (v:=?_) (a' :=?_) (bm 3 14) rfl rfl (by kernel_rfl) (fun _ _ _ h=>h) (Or.inl ⟨by rfl,?_⟩) ?_ ?_
     rotate_left
     ·intro w'
      go_simp
      with_reducible rfl
     rotate_left
     ·simp only [Act.put,s1,s2,s3,i64_w,i32_w,IntKind.wrap_u32]
      rfl
     refine pure_ (i:=3) (N:=some 26) (v:=?_) (a' :=?_) (bm 4 14) rfl rfl (by kernel_rfl) (fun _ _ _ h=>h) (Or.inl ⟨by rfl,?_⟩) ?_ ?_
     rotate_left
     ·intro w'
      go_simp
      with_reducible rfl
     rotate_left
     ·simp only [Act.put,s1,s2,s3,i64_w,i32_w,IntKind.wrap_u32]
      rfl
     refine take_ (i:=4) (N:=some 27) (v:=?_) (a' :=?_) (bm 5 14) rfl rfl (by kernel_rfl) (fun _ _ _ h=>h) (Or.inl ⟨by rfl,?_⟩) hHeld ?_ ?_
     rotate_left
     ·intro w' s0
      obtain ⟨s0,s1⟩:=s0
      go_simp
      with_reducible rfl
     rotate_left
     ·simp only [Act.put,s1,s2,s3,i64_w,i32_w,IntKind.wrap_u32]
      rfl
     refine pure_ (i:=5) (N:=some 28) (v:=?_) (a' :=?_) (bm 6 14) rfl rfl (by kernel_rfl) (fun _ _ _ h=>h) (Or.inl ⟨by rfl,?_⟩) ?_ ?_
     rotate_left
     ·intro w'
      go_simp
      with_reducible rfl
     rotate_left
     ·simp only [Act.put,s1,s2,s3,i64_w,i32_w,IntKind.wrap_u32]
      rfl
     refine pure_ (i:=6) (N:=some 29) (v:=?_) (a' :=?_) (bm 7 14) rfl rfl (by kernel_rfl) (fun _ _ _ h=>h) (Or.inl ⟨by rfl,?_⟩) ?_ ?_
     rotate_left
     ·intro w'
      go_simp
      with_reducible rfl
     rotate_left
     ·simp only [Act.put,s1,s2,s3,i64_w,i32_w,IntKind.wrap_u32]
      rfl
     refine pure_ (i:=7) (N:=some 30) (v:=?_) (a' :=?_) (bm 8 14) rfl rfl (by kernel_rfl) (fun _ _ _ h=>h) (Or.inl ⟨by rfl,?_⟩) ?_ ?_
     rotate_left
     ·intro w'
      go_simp
      with_reducible rfl
     rotate_left
     ·simp only [Act.put,s1,s2,s3,i64_w,i32_w,IntKind.wrap_u32]
      rfl
     refine take_ (i:=8) (N:=some 31) (v:=?_) (a' :=?_) (bm 9 14) rfl rfl (by kernel_rfl) (fun _ _ _ h=>h) (Or.inl ⟨by rfl,?_⟩) hHeld ?_ ?_
     rotate_left
     ·intro w' s0
      obtain ⟨s0,s1⟩:=s0
      go_simp
      with_reducible rfl
     rotate_left
     ·simp only [Act.put,s1,s2,s3,i64_w,i32_w,IntKind.wrap_u32]
      rfl
     refine pure_ (i:=9) (N:=some 32) (v:=?_) (a' :=?_) (bm 10 14) rfl rfl (by kernel_rfl) (fun _ _ _ h=>h) (Or.inl ⟨by rfl,?_⟩) ?_ ?_
     rotate_left
     ·intro w'
      go_simp
      with_reducible rfl
     rotate_left
     ·simp only [Act.put,s1,s2,s3,i64_w,i32_w,IntKind.wrap_u32]
      rfl
     refine one_ (i:=10) (N:=some 33) (bm 11 14) rfl rfl (by kernel_rfl) (by decide) (fun K hK=>?_)
     refine goes_ Try.func87 (by kernel_rfl) rfl #[.int .u32 ((x1001_1+(((Go.bits .xor .u32 x1000_1 ((rd l1 x8_1)%4294967296))*16777619)%4294967296))%4294967296), .int .i64 7] (by rfl) rfl rfl (by (try simp only [List.map_toArray,List.map_cons,List.map_nil]);first|done|rfl) ?_
     refine (bits_RotateLeft32.calls ((x1001_1+(((Go.bits .xor .u32 x1000_1 ((rd l1 x8_1)%4294967296))*16777619)%4294967296))%4294967296) 7 t482 _ A6.out).mono ?_
     rintro e w' ⟨rfl,⟨nd,rfl⟩⟩
     refine ⟨_,rfl,hK.out _ _ hHeld (fun hHeld=>?_)⟩
     clear hK K
     have m0_:Aside0 (IsS79 w0 (World.drewN wd4 nd) g ((((Go.bits .xor .u32 x1000_1 ((rd l1 x8_1)%4294967296))*16777619)%4294967296)) (x1001_1) (x1002_1) (x1003_1)):=⟨IsS79.drewN HI0.out _⟩
     have m1_:Aside0 (KeepBut w (World.drewN wd4 nd) g none):=⟨by first|exact keep_drewN HK.out _|(apply keep_drewN;exact HK.out)⟩
     have m2_:Aside0 (Below w0.heap.size w0 (World.drewN wd4 nd)):=⟨qi HB.out _⟩
     clear HI0 HK HB
     have HI0:=m0_
     have HK:=m1_
     have HB:=m2_
     clear m0_ m1_ m2_
     generalize World.drewN wd4 nd=wn4 at HI0 HK HB hHeld ⊢
     refine pure_ (i:=11) (N:=some 34) (v:=?_) (a' :=?_) (bm 12 14) rfl rfl (by kernel_rfl) (fun _ _ _ h=>h) (Or.inl ⟨by rfl,?_⟩) ?_ ?_
     rotate_left
     ·intro w'
      go_simp
      with_reducible rfl
     rotate_left
     ·simp only [Act.put,s1,s2,s3,i64_w,i32_w,IntKind.wrap_u32]
      rfl
     refine pure_ (i:=12) (N:=some 35) (v:=?_) (a' :=?_) (bm 13 14) rfl rfl (by kernel_rfl) (fun _ _ _ h=>h) (Or.inl ⟨by rfl,?_⟩) ?_ ?_
     rotate_left
     ·intro w'
      go_simp
      with_reducible rfl
     rotate_left
     ·simp only [Act.put,s1,s2,s3,i64_w,i32_w,IntKind.wrap_u32]
      rfl
     clear hHeld
     obtain ⟨HG_,hg_⟩:=HI0.out
     have hc_0:=cellS79_0 HG_
     have hc_1:=cellS79_1 HG_
     have hc_2:=cellS79_2 HG_
     have hc_3:=cellS79_3 HG_
     have hf_0:=blk_frozen HG_ 0
     have hf_1:=blk_frozen HG_ 1
     have hf_2:=blk_frozen HG_ 2
     have hf_3:=blk_frozen HG_ 3
     clear HG_ hg_
     refine last_ (i:=13) (N:=none) (bm 14 14) rfl rfl (by kernel_rfl) (by decide) (fun K hK=>?_)
     refine skip_ (w1:=?_) (by rfl) rfl ?_ ?_
     rotate_left
     ·go_simp
      rfl
     refine hK.out _ _ ?_
     clear hK K hc_0 hf_0 hc_1 hf_1 hc_2 hf_2 hc_3 hf_3
     refine done_ (by kernel_rfl) ?_
     have m0_:Aside0 (IsS79 w0 (World.setCell wn4 ⟨g,1,none⟩ (.int .u32 (t482))) g ((((Go.bits .xor .u32 x1000_1 ((rd l1 x8_1)%4294967296))*16777619)%4294967296)) (t482) (x1002_1) (x1003_1)):=⟨IsS79.set_1 HI0.out _⟩
     have m1_:Aside0 (KeepBut w (World.setCell wn4 ⟨g,1,none⟩ (.int .u32 (t482))) g none):=⟨by first|exact KeepBut.set_ HK.out _ _|(apply KeepBut.set_;exact HK.out)⟩
     have m2_:Aside0 (Below w0.heap.size w0 (World.setCell wn4 ⟨g,1,none⟩ (.int .u32 (t482)))):=⟨qk HB.out (IsS79.ge HI0.out)⟩
     clear HI0 HK HB
     have HI0:=m0_
     have HK:=m1_
     have HB:=m2_
     clear m0_ m1_ m2_
     generalize World.setCell wn4 ⟨g,1,none⟩ (.int .u32 (t482))=ws4 at HI0 HK HB ⊢
     go_wp2
     obtain ⟨HG_,hg_⟩:=HI0.out
     have hc_0:=cellS79_0 HG_
     have hc_1:=cellS79_1 HG_
     have hc_2:=cellS79_2 HG_
     have hc_3:=cellS79_3 HG_
     have hf_0:=blk_frozen HG_ 0
     have hf_1:=blk_frozen HG_ 1
     have hf_2:=blk_frozen HG_ 2
     have hf_3:=blk_frozen HG_ 3
     clear HG_ hg_
     refine start_ (n:=14) (S:=fun w' =>w'.cell? ⟨g,2,none⟩=some (.int .u32 (x1002_1))∧w'.cell? ⟨g,1,none⟩=some (.int .u32 (t482))) (ds:=[13]) (bm 0 14) (by kernel_rfl) rfl rfl ⟨hc_2,hc_1⟩ (fun hHeld=>?_)
     clear hc_0 hf_0 hc_1 hf_1 hc_2 hf_2 hc_3 hf_3
     have m0_:Aside0 (IsS79 w0 (ws4.drew) g ((((Go.bits .xor .u32 x1000_1 ((rd l1 x8_1)%4294967296))*16777619)%4294967296)) (t482) (x1002_1) (x1003_1)):=⟨IsS79.drew HI0.out⟩
     have m1_:Aside0 (KeepBut w (ws4.drew) g none):=⟨by first|exact keep_drew HK.out|(apply keep_drew;exact HK.out)⟩
     have m2_:Aside0 (Below w0.heap.size w0 (ws4.drew)):=⟨qj HB.out⟩
     clear HI0 HK HB
     have HI0:=m0_
     have HK:=m1_
     have HB:=m2_
     clear m0_ m1_ m2_
     generalize ws4.drew=wd5 at HI0 HK HB hHeld ⊢
     refine pure_ (i:=0) (N:=some 36) (v:=?_) (a' :=?_) (bm 1 14) rfl rfl (by kernel_rfl) (fun _ _ _ h=>h) (Or.inl ⟨by rfl,?_⟩) ?_ ?_
     rotate_left
     ·intro w'
      go_simp
      with_reducible rfl
     rotate_left
     ·simp only [Act.put,s1,s2,s3,i64_w,i32_w,IntKind.wrap_u32]
      rfl
     refine pure_ (i:=1) (N:=some 37) (v:=?_) (a' :=?_) (bm 2 14) rfl rfl (by kernel_rfl) (fun _ _ _ h=>h) (Or.inl ⟨by rfl,?_⟩) ?_ ?_
     rotate_left
     ·intro w'
      go_simp
      with_reducible rfl
     rotate_left
     ·simp only [Act.put,s1,s2,s3,i64_w,i32_w,IntKind.wrap_u32]
      rfl
     refine pure_ (i:=2) (N:=some 38) (v:=?_) (a' :=?_) (bm 3 14) rfl rfl (by kernel_rfl) (fun _ _ _ h=>h) (Or.inl ⟨by rfl,?_⟩) ?_ ?_
     rotate_left
     ·intro w'
      go_simp
      with_reducible rfl
     rotate_left
     ·simp only [Act.put,s1,s2,s3,i64_w,i32_w,IntKind.wrap_u32]
      rfl
     refine pure_ (i:=3) (N:=some 39) (v:=?_) (a' :=?_) (bm 4 14) rfl rfl (by kernel_rfl) (fun _ _ _ h=>h) (Or.inl ⟨by rfl,?_⟩) ?_ ?_
     rotate_left
     ·intro w'
      go_simp
      with_reducible rfl
     rotate_left
     ·simp only [Act.put,s1,s2,s3,i64_w,i32_w,IntKind.wrap_u32]
      rfl
     refine take_ (i:=4) (N:=some 40) (v:=?_) (a' :=?_) (bm 5 14) rfl rfl (by kernel_rfl) (fun _ _ _ h=>h) (Or.inl ⟨by rfl,?_⟩) hHeld ?_ ?_
     rotate_left
     ·intro w' s0
      obtain ⟨s0,s1⟩:=s0
      go_simp
      with_reducible rfl
     rotate_left
     ·simp only [Act.put,s1,s2,s3,i64_w,i32_w,IntKind.wrap_u32]
      rfl
     refine pure_ (i:=5) (N:=some 41) (v:=?_) (a' :=?_) (bm 6 14) rfl rfl (by kernel_rfl) (fun _ _ _ h=>h) (Or.inl ⟨by rfl,?_⟩) ?_ ?_
     rotate_left
     ·intro w'
      go_simp
      with_reducible rfl
     rotate_left
     ·simp only [Act.put,s1,s2,s3,i64_w,i32_w,IntKind.wrap_u32]
      rfl
     refine pure_ (i:=6) (N:=some 42) (v:=?_) (a' :=?_) (bm 7 14) rfl rfl (by kernel_rfl) (fun _ _ _ h=>h) (Or.inl ⟨by rfl,?_⟩) ?_ ?_
     rotate_left
     ·intro w'
      go_simp
      with_reducible rfl
     rotate_left
     ·simp only [Act.put,s1,s2,s3,i64_w,i32_w,IntKind.wrap_u32]
      rfl
     refine pure_ (i:=7) (N:=some 43) (v:=?_) (a' :=?_) (bm 8 14) rfl rfl (by kernel_rfl) (fun _ _ _ h=>h) (Or.inl ⟨by rfl,?_⟩) ?_ ?_
     rotate_left
     ·intro w'
      go_simp
      with_reducible rfl
     rotate_left
     ·simp only [Act.put,s1,s2,s3,i64_w,i32_w,IntKind.wrap_u32]
      rfl
     refine take_ (i:=8) (N:=some 44) (v:=?_) (a' :=?_) (bm 9 14) rfl rfl (by kernel_rfl) (fun _ _ _ h=>h) (Or.inl ⟨by rfl,?_⟩) hHeld ?_ ?_
     rotate_left
     ·intro w' s0
      obtain ⟨s0,s1⟩:=s0
      go_simp
      with_reducible rfl
     rotate_left
     ·simp only [Act.put,s1,s2,s3,i64_w,i32_w,IntKind.wrap_u32]
      rfl
     refine pure_ (i:=9) (N:=some 45) (v:=?_) (a' :=?_) (bm 10 14) rfl rfl (by kernel_rfl) (fun _ _ _ h=>h) (Or.inl ⟨by rfl,?_⟩) ?_ ?_
     rotate_left
     ·intro w'
      go_simp
      with_reducible rfl
     rotate_left
     ·simp only [Act.put,s1,s2,s3,i64_w,i32_w,IntKind.wrap_u32]
      rfl
     refine one_ (i:=10) (N:=some 46) (bm 11 14) rfl rfl (by kernel_rfl) (by decide) (fun K hK=>?_)
     refine goes_ Try.func87 (by kernel_rfl) rfl #[.int .u32 (Go.bits .xor .u32 x1002_1 t482), .int .i64 13] (by rfl) rfl rfl (by (try simp only [List.map_toArray,List.map_cons,List.map_nil]);first|done|rfl) ?_
     refine (bits_RotateLeft32.calls (Go.bits .xor .u32 x1002_1 t482) 13 t483 _ A7.out).mono ?_
     rintro e w' ⟨rfl,⟨nd,rfl⟩⟩
     refine ⟨_,rfl,hK.out _ _ hHeld (fun hHeld=>?_)⟩
     clear hK K
     have m0_:Aside0 (IsS79 w0 (World.drewN wd5 nd) g ((((Go.bits .xor .u32 x1000_1 ((rd l1 x8_1)%4294967296))*16777619)%4294967296)) (t482) (x1002_1) (x1003_1)):=⟨IsS79.drewN HI0.out _⟩
     have m1_:Aside0 (KeepBut w (World.drewN wd5 nd) g none):=⟨by first|exact keep_drewN HK.out _|(apply keep_drewN;exact HK.out)⟩
     have m2_:Aside0 (Below w0.heap.size w0 (World.drewN wd5 nd)):=⟨qi HB.out _⟩
     clear HI0 HK HB
     have HI0:=m0_
     have HK:=m1_
     have HB:=m2_
     clear m0_ m1_ m2_
     generalize World.drewN wd5 nd=wn5 at HI0 HK HB hHeld ⊢
     refine pure_ (i:=11) (N:=some 47) (v:=?_) (a' :=?_) (bm 12 14) rfl rfl (by kernel_rfl) (fun _ _ _ h=>h) (Or.inl ⟨by rfl,?_⟩) ?_ ?_
     rotate_left
     ·intro w'
      go_simp
      with_reducible rfl
     rotate_left
     ·simp only [Act.put,s1,s2,s3,i64_w,i32_w,IntKind.wrap_u32]
      rfl
     refine pure_ (i:=12) (N:=some 48) (v:=?_) (a' :=?_) (bm 13 14) rfl rfl (by kernel_rfl) (fun _ _ _ h=>h) (Or.inl ⟨by rfl,?_⟩) ?_ ?_
     rotate_left
     ·intro w'
      go_simp
      with_reducible rfl
     rotate_left
     ·simp only [Act.put,s1,s2,s3,i64_w,i32_w,IntKind.wrap_u32]
      rfl
     clear hHeld
     obtain ⟨HG_,hg_⟩:=HI0.out
     have hc_0:=cellS79_0 HG_
     have hc_1:=cellS79_1 HG_
     have hc_2:=cellS79_2 HG_
     have hc_3:=cellS79_3 HG_
     have hf_0:=blk_frozen HG_ 0
     have hf_1:=blk_frozen HG_ 1
     have hf_2:=blk_frozen HG_ 2
     have hf_3:=blk_frozen HG_ 3
     clear HG_ hg_
     refine last_ (i:=13) (N:=none) (bm 14 14) rfl rfl (by kernel_rfl) (by decide) (fun K hK=>?_)
     refine skip_ (w1:=?_) (by rfl) rfl ?_ ?_
     rotate_left
     ·go_simp
      rfl
     refine hK.out _ _ ?_
     clear hK K hc_0 hf_0 hc_1 hf_1 hc_2 hf_2 hc_3 hf_3
     refine done_ (by kernel_rfl) ?_
     have m0_:Aside0 (IsS79 w0 (World.setCell wn5 ⟨g,2,none⟩ (.int .u32 (t483))) g ((((Go.bits .xor .u32 x1000_1 ((rd l1 x8_1)%4294967296))*16777619)%4294967296)) (t482) (t483) (x1003_1)):=⟨IsS79.set_2 HI0.out _⟩
     have m1_:Aside0 (KeepBut w (World.setCell wn5 ⟨g,2,none⟩ (.int .u32 (t483))) g none):=⟨by first|exact KeepBut.set_ HK.out _ _|(apply KeepBut.set_;exact HK.out)⟩
     have m2_:Aside0 (Below w0.heap.size w0 (World.setCell wn5 ⟨g,2,none⟩ (.int .u32 (t483)))):=⟨qk HB.out (IsS79.ge HI0.out)⟩
     clear HI0 HK HB
     have HI0:=m0_
     have HK:=m1_
     have HB:=m2_
     clear m0_ m1_ m2_
     generalize World.setCell wn5 ⟨g,2,none⟩ (.int .u32 (t483))=ws5 at HI0 HK HB ⊢
     go_wp2
     obtain ⟨HG_,hg_⟩:=HI0.out
     have hc_0:=cellS79_0 HG_
     have hc_1:=cellS79_1 HG_
     have hc_2:=cellS79_2 HG_
     have hc_3:=cellS79_3 HG_
     have hf_0:=blk_frozen HG_ 0
     have hf_1:=blk_frozen HG_ 1
     have hf_2:=blk_frozen HG_ 2
     have hf_3:=blk_frozen HG_ 3
     clear HG_ hg_
     refine start_ (n:=14) (S:=fun w' =>w'.cell? ⟨g,3,none⟩=some (.int .u32 (x1003_1))∧w'.cell? ⟨g,2,none⟩=some (.int .u32 (t483))) (ds:=[13]) (bm 0 14) (by kernel_rfl) rfl rfl ⟨hc_3,hc_2⟩ (fun hHeld=>?_)
     clear hc_0 hf_0 hc_1 hf_1 hc_2 hf_2 hc_3 hf_3
     have m0_:Aside0 (IsS79 w0 (ws5.drew) g ((((Go.bits .xor .u32 x1000_1 ((rd l1 x8_1)%4294967296))*16777619)%4294967296)) (t482) (t483) (x1003_1)):=⟨IsS79.drew HI0.out⟩
     have m1_:Aside0 (KeepBut w (ws5.drew) g none):=⟨by first|exact keep_drew HK.out|(apply keep_drew;exact HK.out)⟩
     have m2_:Aside0 (Below w0.heap.size w0 (ws5.drew)):=⟨qj HB.out⟩
     clear HI0 HK HB
     have HI0:=m0_
     have HK:=m1_
     have HB:=m2_
     clear m0_ m1_ m2_
     generalize ws5.drew=wd6 at HI0 HK HB hHeld ⊢
     refine pure_ (i:=0) (N:=some 49) (v:=?_) (a' :=?_) (bm 1 14) rfl rfl (by kernel_rfl) (fun _ _ _ h=>h) (Or.inl ⟨by rfl,?_⟩) ?_ ?_
     rotate_left
     ·intro w'
      go_simp
      with_reducible rfl
     rotate_left
     ·simp only [Act.put,s1,s2,s3,i64_w,i32_w,IntKind.wrap_u32]
      rfl
     refine pure_ (i:=1) (N:=some 50) (v:=?_) (a' :=?_) (bm 2 14) rfl rfl (by kernel_rfl) (fun _ _ _ h=>h) (Or.inl ⟨by rfl,?_⟩) ?_ ?_
     rotate_left
     ·intro w'
      go_simp
      with_reducible rfl
     rotate_left
     ·simp only [Act.put,s1,s2,s3,i64_w,i32_w,IntKind.wrap_u32]
      rfl
     refine pure_ (i:=2) (N:=some 51) (v:=?_) (a' :=?_) (bm 3 14) rfl rfl (by kernel_rfl) (fun _ _ _ h=>h) (Or.inl ⟨by rfl,?_⟩) ?_ ?_
     rotate_left
     ·intro w'
      go_simp
      with_reducible rfl
     rotate_left
     ·simp only [Act.put,s1,s2,s3,i64_w,i32_w,IntKind.wrap_u32]
      rfl
     refine pure_ (i:=3) (N:=some 52) (v:=?_) (a' :=?_) (bm 4 14) rfl rfl (by kernel_rfl) (fun _ _ _ h=>h) (Or.inl ⟨by rfl,?_⟩) ?_ ?_
     rotate_left
     ·intro w'
      go_simp
      with_reducible rfl
     rotate_left
     ·simp only [Act.put,s1,s2,s3,i64_w,i32_w,IntKind.wrap_u32]
      rfl
     refine take_ (i:=4) (N:=some 53) (v:=?_) (a' :=?_) (bm 5 14) rfl rfl (by kernel_rfl) (fun _ _ _ h=>h) (Or.inl ⟨by rfl,?_⟩) hHeld ?_ ?_
     rotate_left
     ·intro w' s0
      obtain ⟨s0,s1⟩:=s0
      go_simp
      with_reducible rfl
     rotate_left
     ·simp only [Act.put,s1,s2,s3,i64_w,i32_w,IntKind.wrap_u32]
      rfl
     refine pure_ (i:=5) (N:=some 54) (v:=?_) (a' :=?_) (bm 6 14) rfl rfl (by kernel_rfl) (fun _ _ _ h=>h) (Or.inl ⟨by rfl,?_⟩) ?_ ?_
     rotate_left
     ·intro w'
      go_simp
      with_reducible rfl
     rotate_left
     ·simp only [Act.put,s1,s2,s3,i64_w,i32_w,IntKind.wrap_u32]
      rfl
     refine pure_ (i:=6) (N:=some 55) (v:=?_) (a' :=?_) (bm 7 14) rfl rfl (by kernel_rfl) (fun _ _ _ h=>h) (Or.inl ⟨by rfl,?_⟩) ?_ ?_
     rotate_left
     ·intro w'
      go_simp
      with_reducible rfl
     rotate_left
     ·simp only [Act.put,s1,s2,s3,i64_w,i32_w,IntKind.wrap_u32]
      rfl
     refine pure_ (i:=7) (N:=some 56) (v:=?_) (a' :=?_) (bm 8 14) rfl rfl (by kernel_rfl) (fun _ _ _ h=>h) (Or.inl ⟨by rfl,?_⟩) ?_ ?_
     rotate_left
     ·intro w'
      go_simp
      with_reducible rfl
     rotate_left
     ·simp only [Act.put,s1,s2,s3,i64_w,i32_w,IntKind.wrap_u32]
      rfl
     refine take_ (i:=8) (N:=some 57) (v:=?_) (a' :=?_) (bm 9 14) rfl rfl (by kernel_rfl) (fun _ _ _ h=>h) (Or.inl ⟨by rfl,?_⟩) hHeld ?_ ?_
     rotate_left
     ·intro w' s0
      obtain ⟨s0,s1⟩:=s0
      go_simp
      with_reducible rfl
     rotate_left
     ·simp only [Act.put,s1,s2,s3,i64_w,i32_w,IntKind.wrap_u32]
      rfl
     refine pure_ (i:=9) (N:=some 58) (v:=?_) (a' :=?_) (bm 10 14) rfl rfl (by kernel_rfl) (fun _ _ _ h=>h) (Or.inl ⟨by rfl,?_⟩) ?_ ?_
     rotate_left
     ·intro w'
      go_simp
      with_reducible rfl
     rotate_left
     ·simp only [Act.put,s1,s2,s3,i64_w,i32_w,IntKind.wrap_u32]
      rfl
     refine one_ (i:=10) (N:=some 59) (bm 11 14) rfl rfl (by kernel_rfl) (by decide) (fun K hK=>?_)
     refine goes_ Try.func87 (by kernel_rfl) rfl #[.int .u32 ((x1003_1+t483)%4294967296), .int .i64 17] (by rfl) rfl rfl (by (try simp only [List.map_toArray,List.map_cons,List.map_nil]);first|done|rfl) ?_
     refine (bits_RotateLeft32.calls ((x1003_1+t483)%4294967296) 17 t484 _ A8.out).mono ?_
     rintro e w' ⟨rfl,⟨nd,rfl⟩⟩
     refine ⟨_,rfl,hK.out _ _ hHeld (fun hHeld=>?_)⟩
     clear hK K
     have m0_:Aside0 (IsS79 w0 (World.drewN wd6 nd) g ((((Go.bits .xor .u32 x1000_1 ((rd l1 x8_1)%4294967296))*16777619)%4294967296)) (t482) (t483) (x1003_1)):=⟨IsS79.drewN HI0.out _⟩
     have m1_:Aside0 (KeepBut w (World.drewN wd6 nd) g none):=⟨by first|exact keep_drewN HK.out _|(apply keep_drewN;exact HK.out)⟩
     have m2_:Aside0 (Below w0.heap.size w0 (World.drewN wd6 nd)):=⟨qi HB.out _⟩
     clear HI0 HK HB
     have HI0:=m0_
     have HK:=m1_
     have HB:=m2_
     clear m0_ m1_ m2_
     generalize World.drewN wd6 nd=wn6 at HI0 HK HB hHeld ⊢
     refine pure_ (i:=11) (N:=some 60) (v:=?_) (a' :=?_) (bm 12 14) rfl rfl (by kernel_rfl) (fun _ _ _ h=>h) (Or.inl ⟨by rfl,?_⟩) ?_ ?_
     rotate_left
     ·intro w'
      go_simp
      with_reducible rfl
     rotate_left
     ·simp only [Act.put,s1,s2,s3,i64_w,i32_w,IntKind.wrap_u32]
      rfl
     refine pure_ (i:=12) (N:=some 61) (v:=?_) (a' :=?_) (bm 13 14) rfl rfl (by kernel_rfl) (fun _ _ _ h=>h) (Or.inl ⟨by rfl,?_⟩) ?_ ?_
     rotate_left
     ·intro w'
      go_simp
      with_reducible rfl
     rotate_left
     ·simp only [Act.put,s1,s2,s3,i64_w,i32_w,IntKind.wrap_u32]
      rfl
     clear hHeld
     obtain ⟨HG_,hg_⟩:=HI0.out
     have hc_0:=cellS79_0 HG_
     have hc_1:=cellS79_1 HG_
     have hc_2:=cellS79_2 HG_
     have hc_3:=cellS79_3 HG_
     have hf_0:=blk_frozen HG_ 0
     have hf_1:=blk_frozen HG_ 1
     have hf_2:=blk_frozen HG_ 2
     have hf_3:=blk_frozen HG_ 3
     clear HG_ hg_
     refine last_ (i:=13) (N:=none) (bm 14 14) rfl rfl (by kernel_rfl) (by decide) (fun K hK=>?_)
     refine skip_ (w1:=?_) (by rfl) rfl ?_ ?_
     rotate_left
     ·go_simp
      rfl
     refine hK.out _ _ ?_
     clear hK K hc_0 hf_0 hc_1 hf_1 hc_2 hf_2 hc_3 hf_3
     refine done_ (by kernel_rfl) ?_
     have m0_:Aside0 (IsS79 w0 (World.setCell wn6 ⟨g,3,none⟩ (.int .u32 (t484))) g ((((Go.bits .xor .u32 x1000_1 ((rd l1 x8_1)%4294967296))*16777619)%4294967296)) (t482) (t483) (t484)):=⟨IsS79.set_3 HI0.out _⟩
     have m1_:Aside0 (KeepBut w (World.setCell wn6 ⟨g,3,none⟩ (.int .u32 (t484))) g none):=⟨by first|exact KeepBut.set_ HK.out _ _|(apply KeepBut.set_;exact HK.out)⟩
     have m2_:Aside0 (Below w0.heap.size w0 (World.setCell wn6 ⟨g,3,none⟩ (.int .u32 (t484)))):=⟨qk HB.out (IsS79.ge HI0.out)⟩
     clear HI0 HK HB
     have HI0:=m0_
     have HK:=m1_
     have HB:=m2_
     clear m0_ m1_ m2_
     generalize World.setCell wn6 ⟨g,3,none⟩ (.int .u32 (t484))=ws6 at HI0 HK HB ⊢
     go_wp2
     obtain ⟨HG_,hg_⟩:=HI0.out
     have hc_0:=cellS79_0 HG_
     have hc_1:=cellS79_1 HG_
     have hc_2:=cellS79_2 HG_
     have hc_3:=cellS79_3 HG_
     have hf_0:=blk_frozen HG_ 0
     have hf_1:=blk_frozen HG_ 1
     have hf_2:=blk_frozen HG_ 2
     have hf_3:=blk_frozen HG_ 3
     clear HG_ hg_
     refine start_ (n:=12) (S:=fun w' =>w'.cell? ⟨g,0,none⟩=some (.int .u32 ((((Go.bits .xor .u32 x1000_1 ((rd l1 x8_1)%4294967296))*16777619)%4294967296)))∧w'.cell? ⟨g,3,none⟩=some (.int .u32 (t484))) (ds:=[11]) (bm 0 12) (by kernel_rfl) rfl rfl ⟨hc_0,hc_3⟩ (fun hHeld=>?_)
     clear hc_0 hf_0 hc_1 hf_1 hc_2 hf_2 hc_3 hf_3
     have m0_:Aside0 (IsS79 w0 (ws6.drew) g ((((Go.bits .xor .u32 x1000_1 ((rd l1 x8_1)%4294967296))*16777619)%4294967296)) (t482) (t483) (t484)):=⟨IsS79.drew HI0.out⟩
     have m1_:Aside0 (KeepBut w (ws6.drew) g none):=⟨by first|exact keep_drew HK.out|(apply keep_drew;exact HK.out)⟩
     have m2_:Aside0 (Below w0.heap.size w0 (ws6.drew)):=⟨qj HB.out⟩
     clear HI0 HK HB
     have HI0:=m0_
     have HK:=m1_
     have HB:=m2_
     clear m0_ m1_ m2_
     generalize ws6.drew=wd7 at HI0 HK HB hHeld ⊢
     refine pure_ (i:=0) (N:=some 62) (v:=?_) (a' :=?_) (bm 1 12) rfl rfl (by kernel_rfl) (fun _ _ _ h=>h) (Or.inl ⟨by rfl,?_⟩) ?_ ?_
     rotate_left
     ·intro w'
      go_simp
      with_reducible rfl
     rotate_left
     ·simp only [Act.put,s1,s2,s3,i64_w,i32_w,IntKind.wrap_u32]
      rfl
     refine pure_ (i:=1) (N:=some 63) (v:=?_) (a' :=?_) (bm 2 12) rfl rfl (by kernel_rfl) (fun _ _ _ h=>h) (Or.inl ⟨by rfl,?_⟩) ?_ ?_
     rotate_left
     ·intro w'
      go_simp
      with_reducible rfl
     rotate_left
     ·simp only [Act.put,s1,s2,s3,i64_w,i32_w,IntKind.wrap_u32]
      rfl
     refine pure_ (i:=2) (N:=some 64) (v:=?_) (a' :=?_) (bm 3 12) rfl rfl (by kernel_rfl) (fun _ _ _ h=>h) (Or.inl ⟨by rfl,?_⟩) ?_ ?_
     rotate_left
     ·intro w'
      go_simp
      with_reducible rfl
     rotate_left
     ·simp only [Act.put,s1,s2,s3,i64_w,i32_w,IntKind.wrap_u32]
      rfl
     refine take_ (i:=3) (N:=some 65) (v:=?_) (a' :=?_) (bm 4 12) rfl rfl (by kernel_rfl) (fun _ _ _ h=>h) (Or.inl ⟨by rfl,?_⟩) hHeld ?_ ?_
     rotate_left
     ·intro w' s0
      obtain ⟨s0,s1⟩:=s0
      go_simp
      with_reducible rfl
     rotate_left
     ·simp only [Act.put,s1,s2,s3,i64_w,i32_w,IntKind.wrap_u32]
      rfl
     refine pure_ (i:=4) (N:=some 66) (v:=?_) (a' :=?_) (bm 5 12) rfl rfl (by kernel_rfl) (fun _ _ _ h=>h) (Or.inl ⟨by rfl,?_⟩) ?_ ?_
     rotate_left
     ·intro w'
      go_simp
      with_reducible rfl
     rotate_left
     ·simp only [Act.put,s1,s2,s3,i64_w,i32_w,IntKind.wrap_u32]
      rfl
     refine pure_ (i:=5) (N:=some 67) (v:=?_) (a' :=?_) (bm 6 12) rfl rfl (by kernel_rfl) (fun _ _ _ h=>h) (Or.inl ⟨by rfl,?_⟩) ?_ ?_
     rotate_left
     ·intro w'
      go_simp
      with_reducible rfl
     rotate_left
     ·simp only [Act.put,s1,s2,s3,i64_w,i32_w,IntKind.wrap_u32]
      rfl
     refine pure_ (i:=6) (N:=some 68) (v:=?_) (a' :=?_) (bm 7 12) rfl rfl (by kernel_rfl) (fun _ _ _ h=>h) (Or.inl ⟨by rfl,?_⟩) ?_ ?_
     rotate_left
     ·intro w'
      go_simp
      with_reducible rfl
     rotate_left
     ·simp only [Act.put,s1,s2,s3,i64_w,i32_w,IntKind.wrap_u32]
      rfl
     refine take_ (i:=7) (N:=some 69) (v:=?_) (a' :=?_) (bm 8 12) rfl rfl (by kernel_rfl) (fun _ _ _ h=>h) (Or.inl ⟨by rfl,?_⟩) hHeld ?_ ?_
     rotate_left
     ·intro w' s0
      obtain ⟨s0,s1⟩:=s0
      go_simp
      with_reducible rfl
     rotate_left
     ·simp only [Act.put,s1,s2,s3,i64_w,i32_w,IntKind.wrap_u32]
      rfl
     refine pure_ (i:=8) (N:=some 70) (v:=?_) (a' :=?_) (bm 9 12) rfl rfl (by kernel_rfl) (fun _ _ _ h=>h) (Or.inl ⟨by rfl,?_⟩) ?_ ?_
     rotate_left
     ·intro w'
      go_simp
      with_reducible rfl
     rotate_left
     ·simp only [Act.put,s1,s2,s3,i64_w,i32_w,IntKind.wrap_u32]
      rfl
     refine pure_ (i:=9) (N:=some 71) (v:=?_) (a' :=?_) (bm 10 12) rfl rfl (by kernel_rfl) (fun _ _ _ h=>h) (Or.inl ⟨by rfl,?_⟩) ?_ ?_
     rotate_left
     ·intro w'
      go_simp
      with_reducible rfl
     rotate_left
     ·simp only [Act.put,s1,s2,s3,i64_w,i32_w,IntKind.wrap_u32]
      rfl
     refine pure_ (i:=10) (N:=some 72) (v:=?_) (a' :=?_) (bm 11 12) rfl rfl (by kernel_rfl) (fun _ _ _ h=>h) (Or.inl ⟨by rfl,?_⟩) ?_ ?_
     rotate_left
     ·intro w'
      go_simp
      with_reducible rfl
     rotate_left
     ·simp only [Act.put,s1,s2,s3,i64_w,i32_w,IntKind.wrap_u32]
      rfl
     clear hHeld
     obtain ⟨HG_,hg_⟩:=HI0.out
     have hc_0:=cellS79_0 HG_
     have hc_1:=cellS79_1 HG_
     have hc_2:=cellS79_2 HG_
     have hc_3:=cellS79_3 HG_
     have hf_0:=blk_frozen HG_ 0
     have hf_1:=blk_frozen HG_ 1
     have hf_2:=blk_frozen HG_ 2
     have hf_3:=blk_frozen HG_ 3
     clear HG_ hg_
     refine last_ (i:=11) (N:=none) (bm 12 12) rfl rfl (by kernel_rfl) (by decide) (fun K hK=>?_)
     refine skip_ (w1:=?_) (by rfl) rfl ?_ ?_
     rotate_left
     ·go_simp
      rfl
     refine hK.out _ _ ?_
     clear hK K hc_0 hf_0 hc_1 hf_1 hc_2 hf_2 hc_3 hf_3
     refine done_ (by kernel_rfl) ?_
     have m0_:Aside0 (IsS79 w0 (World.setCell wd7 ⟨g,0,none⟩ (.int .u32 (Go.bits .xor .u32 ((((Go.bits .xor .u32 x1000_1 ((rd l1 x8_1)%4294967296))*16777619)%4294967296)) t484))) g (Go.bits .xor .u32 ((((Go.bits .xor .u32 x1000_1 ((rd l1 x8_1)%4294967296))*16777619)%4294967296)) t484) (t482) (t483) (t484)):=⟨IsS79.set_0 HI0.out _⟩
     have m1_:Aside0 (KeepBut w (World.setCell wd7 ⟨g,0,none⟩ (.int .u32 (Go.bits .xor .u32 ((((Go.bits .xor .u32 x1000_1 ((rd l1 x8_1)%4294967296))*16777619)%4294967296)) t484))) g none):=⟨by first|exact KeepBut.set_ HK.out _ _|(apply KeepBut.set_;exact HK.out)⟩
     have m2_:Aside0 (Below w0.heap.size w0 (World.setCell wd7 ⟨g,0,none⟩ (.int .u32 (Go.bits .xor .u32 ((((Go.bits .xor .u32 x1000_1 ((rd l1 x8_1)%4294967296))*16777619)%4294967296)) t484)))):=⟨qk HB.out (IsS79.ge HI0.out)⟩
     clear HI0 HK HB
     have HI0:=m0_
     have HK:=m1_
     have HB:=m2_
     clear m0_ m1_ m2_
     generalize World.setCell wd7 ⟨g,0,none⟩ (.int .u32 (Go.bits .xor .u32 ((((Go.bits .xor .u32 x1000_1 ((rd l1 x8_1)%4294967296))*16777619)%4294967296)) t484))=ws7 at HI0 HK HB ⊢
     go_wp2
     go_roundg k1
     case measure=>have:=HK1.out;omega
     case rel=>exact ⟨(wrap64 (x8_1+1)),(Go.bits .xor .u32 (((Go.bits .xor .u32 x1000_1 ((rd l1 x8_1)%4294967296))*16777619)%4294967296) t484),(t482),(t483),(t484),rfl,H',⟨by have:=HK1.out;omega⟩,⟨by repeat (first|(with_reducible first|exact HI0.out|apply IsS79.alloc|apply IsS79.drewN|apply IsS79.drew|apply IsS79.set_0|apply IsS79.set_1|apply IsS79.set_2|apply IsS79.set_3)|exact HI0.out)⟩,⟨by repeat (first|(with_reducible first|exact HK.out|apply KeepBut.set_|apply keep_drewN|apply keep_drew|apply keep_alloc)|exact HK.out)⟩,⟨HB.out⟩⟩
    rw [if_neg c5] at H
    exact absurd H (by simp)
   rw [if_neg c4] at H
   exact absurd H (by simp)
  rw [if_neg c3] at H
  have c3b0:decide (x8_1<(l1.length:Int))=false:=decide_eq_false c3
  clear c3
  simp only [Option.some.injEq,Prod.mk.injEq] at H
  obtain ⟨rfl,rfl,rfl,rfl⟩:=H
  go_wp2
  first|go_end0|((try simp only [Exit.inBlock,Exit.then]);refine bodyPost_ret (results_none rfl _ _ _) rfl ?_)
  exact ⟨by first|rfl|(simp <;> rfl)|(simp [*] <;> rfl),by repeat (first|(with_reducible first|exact HI0.out|apply IsS79.alloc|apply IsS79.drewN|apply IsS79.drew|apply IsS79.set_0|apply IsS79.set_1|apply IsS79.set_2|apply IsS79.set_3)|exact HI0.out),by repeat (first|(with_reducible first|exact HB.out|apply qh|apply qi|apply qj|refine qk ?_ (IsS79.ge HI0.out))|exact HB.out),by repeat (first|(with_reducible first|exact HK.out|apply KeepBut.set_|apply keep_drewN|apply keep_drew|apply keep_alloc)|exact HK.out)⟩
def impl_fixed.l0:Nat→List Int→Int→Int→Option (List Int)
 |0,_,_,_=>none
 |k+1,x0,x1,x7=>if x7≥0 then (if 0≤(wrap64 (8*x7)) then (if x0.length<140737488355328 then (impl_fixed.l0 k (x0 ++ [(shr .u64 (IntKind.u64.wrap (x1)) (wrap64 (8*x7)))%256]) x1 (wrap64 (x7 - 1))) else (none)) else (none)) else (some x0)
def impl_fixed.f (k:Nat) (l0:List Int) (a1:Int) (a2:Int):Option (List Int):=impl_fixed.l0 k l0 a1 (wrap64 (a2 - 1))
set_option maxHeartbeats 8000000 in
set_option maxRecDepth 100000 in
theorem impl_fixed.calls (k:Nat) (P0_:Nat→Prop) (u9000_:Value) (l0:List Int) (a1:Int) (a2:Int) (r:List Int) (w0 w:World) (hB:Below w0.heap.size w0 w) (ho0:Kd.R (Kd.int .u8) 5 w w0.heap.size P0_ u9000_ l0) (h:impl_fixed.f k l0 a1 a2=some r) :
  Calls Try.prog 80 #[u9000_, .int .i64 a1, .int .i64 a2] w fun e w' =>∃ v0_:Value,e = .returned (v0_)∧Kd.R (Kd.int .u8) 5 w' w0.heap.size (fun k_=>(P0_ k_∨w.heap.size≤k_)) v0_ r∧Below w0.heap.size w0 w' ∧Kept w w' (fun k_=>P0_ k_):=by
 have HO0:=qm (show Kd.R (Kd.int .u8) 5 w w0.heap.size (fun k_=>(P0_ k_∨w.heap.size≤k_)) u9000_ l0 from qg ho0 (fun k_ hk=>(.inl hk)))
 have HK:=qm (Kept.refl w (fun k_=>P0_ k_))
 have HW0:=qm hB.size
 have HB:=qm hB
 clear hB
 have H:(impl_fixed.l0 k l0 a1 (wrap64 (a2 - 1)))=some r:=h
 clear h
 have H' :=qm H
 clear H
 go_enter Try.func80,Try.ntmps80
 go_wp2
 go_loopg [0,7] k (fun kq v0 v7 w' =>∃ (x0_1:List Int) (x7_1:Int),v7 = .int .i64 x7_1∧Aside0 (impl_fixed.l0 kq x0_1 a1 x7_1=some r)∧Aside0 (kq≤k)∧Aside0 (Kd.R (Kd.int .u8) 5 w' w0.heap.size (fun k_=>(P0_ k_∨w.heap.size≤k_)) v0 x0_1)∧Aside0 (Kept w w' (fun k_=>P0_ k_))∧Aside0 (Below w0.heap.size w0 w'))
 case atStart=>exact ⟨(l0),(wrap64 (a2 - 1)),(by first|rfl|(simp;done)|(simp [*];done)),H',⟨Nat.le_refl _⟩,⟨HO0.out⟩,⟨by repeat (first|(with_reducible first|exact HK.out|apply Kept.alloc|apply Kept.drewN|apply Kept.drew)|exact HK.out)⟩,⟨HB.out⟩⟩
 case round=>
  clear H'
  obtain ⟨x0_1,x7_1,rfl,HA,HK1,HO_0,HK,HB⟩:=hrel
  cases gk with
  |zero=>exact absurd HA.out (by simp [impl_fixed.l0])
  |succ k1=>?_
  have H:=HA.out
  clear HA
  simp only [impl_fixed.l0] at H
  by_cases c4:x7_1≥0
  ·rw [if_pos c4] at H
   have c4b0:decide (0≤x7_1)=true:=decide_eq_true c4
   clear c4
   obtain ⟨ji5,hji5⟩:∃ j_:Int,(wrap64 (8*x7_1))=j_:=⟨_,rfl⟩
   replace H:(if 0≤(ji5) then (if x0_1.length<140737488355328 then (impl_fixed.l0 k1 (x0_1 ++ [(shr .u64 (IntKind.u64.wrap (a1)) (ji5))%256]) a1 (wrap64 (x7_1 - 1))) else (none)) else (none))=some r:=by first|(rw [hji5] at H;exact H)|(simp only [hji5] at H ⊢;exact H)
   have hji5w:(IntKind.i64.wrap (8*x7_1))=ji5:=(i64_w _).trans hji5
   by_cases c6:0≤(ji5)
   ·rw [if_pos c6] at H
    have c6b0:=eq_true c6
    have c6b1:decide (0≤(ji5))=true:=decide_eq_true c6
    clear c6
    obtain ⟨ji7,hji7⟩:∃ j_:Int,(shr .u64 (IntKind.u64.wrap (a1)) (ji5))=j_:=⟨_,rfl⟩
    replace H:(if x0_1.length<140737488355328 then (impl_fixed.l0 k1 (x0_1 ++ [(ji7)%256]) a1 (wrap64 (x7_1 - 1))) else (none))=some r:=by first|(rw [hji7] at H;exact H)|(simp only [hji7] at H ⊢;exact H)
    have hji7_:((IntKind.u64.wrap (a1)) / 2 ^ min (ji5).toNat 64)=ji7:=hji7
    have hji7z:(ji5)≤64→((IntKind.u64.wrap (a1)) / 2 ^ (ji5).toNat)=ji7:=shr_small hji7
    by_cases c8:x0_1.length<140737488355328
    ·rw [if_pos c8] at H
     have LMc8:=qm c8
     clear c8
     obtain ⟨y485,hy485⟩:∃ y_:List Int,y_=(x0_1 ++ [(ji7)%256]):=⟨_,rfl⟩
     replace H:(impl_fixed.l0 k1 y485 a1 (wrap64 (x7_1 - 1)))=some r:=by first|(rw [hy485];with_reducible exact H)|(have H2_:=(Option.bind_some _ _).symm.trans H;rw [hy485];with_reducible exact H2_)|(have H2_:=(Option.bind_some _ _).symm.trans H;with_reducible exact H2_)|with_reducible exact H|(rw [hy485];exact H)|exact H
     have Ny485:=qm hy485
     clear hy485
     have H' :=qm H
     clear H
     go_wp2_with (first|((with_reducible refine gate_builtin (b:= .append) (xs:=#[.tmp 14, .tmp 21]) rfl ?_);at_builtin;refine Kd.R_append (Kd.int .u8) (w0:=w0) w0.heap.size rfl (.tmp 14) (.tmp 21) 22 5 (.int .u8 0) 1 rfl Try.underlying22 info5 rfl (by decide) (by omega) u0 x0_1 ((ji7)%256) [.int .u8 ((ji7)%256)] (fun k_=>(P0_ k_∨w.heap.size≤k_)) (fun _=>False) rfl rfl ?aP (fun _ hk=>hk.elim) ?aF ?aO ?aB ?aS ?aL ?_;(case aP=>exact rfl);(case aB=>exact HB.out);(case aF=>exact (fun k_ hk=>(.inr (Nat.le_trans (by first|exact HK.out.1|exact (show Kept w _ (fun k_=>P0_ k_) from by repeat (first|(with_reducible first|exact HK.out|apply Kept.alloc|apply Kept.drewN|apply Kept.drew)|exact HK.out)).1) hk))));(case aO=>exact HO_0.out);(case aS=>exact (qs HB.out));(case aL=>have:=LMc8.out;omega);intro v486 w9 ho hb hg hat;rw [←Ny485.out] at ho;have _:=qm (hb);have _:=qm (Kept.of_grown (S:=(fun k_=>P0_ k_)) hg (by repeat (first|(with_reducible first|exact HK.out|apply Kept.alloc|apply Kept.drewN|apply Kept.drew)|exact HK.out)) (fun k_ e_=>(HO_0.out.1 k_ e_)));have _:=qm (ho);clear HB HK HO_0;rename_i HB HK HO487;clear ho hb hg hat))
     go_roundg k1
     case measure=>have:=HK1.out;omega
     case rel=>exact ⟨(y485),(wrap64 (x7_1 - 1)),rfl,H',⟨by have:=HK1.out;omega⟩,⟨HO487.out⟩,⟨by repeat (first|(with_reducible first|exact HK.out|apply Kept.alloc|apply Kept.drewN|apply Kept.drew)|exact HK.out)⟩,⟨HB.out⟩⟩
    rw [if_neg c8] at H
    exact absurd H (by simp)
   rw [if_neg c6] at H
   exact absurd H (by simp)
  rw [if_neg c4] at H
  have c4b0:decide (0≤x7_1)=false:=decide_eq_false c4
  clear c4
  obtain rfl:=Option.some.inj H
  go_wp2
  go_ret
  exact ⟨_,by first|rfl|(simp <;> rfl)|(simp [*] <;> rfl),HO_0.out,by repeat (first|(with_reducible first|exact HB.out|apply qh|apply qi|apply qj)|exact HB.out),by repeat (first|(with_reducible first|exact HK.out|apply Kept.alloc|apply Kept.drewN|apply Kept.drew)|exact HK.out)⟩
def pick4 (a b c d i:Int):Int:=if i=0 then a else if i=1 then b else if i=2 then c else d
theorem pick4_run (a b c d i:Int) (h0:0≤i) (h1:i<4) (w:World):(Instr.index 82 (.agg #[.int .u32 a, .int .u32 b, .int .u32 c, .int .u32 d]) (.int .i64 i)).run Try.prog w = .ok (.int .u32 (pick4 a b c d i)) w:=by
 have h:i=0∨i=1∨i=2∨i=3:=by omega
 rcases h with rfl|rfl|rfl|rfl
 ·exact (by kernel_rfl:(Instr.index 82 (.agg #[.int .u32 a, .int .u32 b, .int .u32 c, .int .u32 d]) (.int .i64 0)).run Try.prog w = .ok (.int .u32 a) w)
 ·exact (by kernel_rfl:(Instr.index 82 (.agg #[.int .u32 a, .int .u32 b, .int .u32 c, .int .u32 d]) (.int .i64 1)).run Try.prog w = .ok (.int .u32 b) w)
 ·exact (by kernel_rfl:(Instr.index 82 (.agg #[.int .u32 a, .int .u32 b, .int .u32 c, .int .u32 d]) (.int .i64 2)).run Try.prog w = .ok (.int .u32 c) w)
 ·exact (by kernel_rfl:(Instr.index 82 (.agg #[.int .u32 a, .int .u32 b, .int .u32 c, .int .u32 d]) (.int .i64 3)).run Try.prog w = .ok (.int .u32 d) w)
def impl_stirrer_new.f:Option (Int×Int×Int×Int):=some (1779033703,3144134277,1013904242,2773480762)
mutual
def impl_digest.l0:Nat→Int→Int→Int→Int→Int→Option (List Int)
 |0,_,_,_,_,_=>none
 |k+1,x27,x279000,x279001,x279002,x279003=>if x27<16 then ((impl_stirrer_stir.f k x279000 x279001 x279002 x279003 (([165]:List Int))).bind fun bt304=>(impl_digest.l0 k (wrap64 (x27+1)) bt304.1 bt304.2.1 bt304.2.2.1 bt304.2.2.2)) else (impl_digest.l1 k (([]:List Int)) x279000 x279001 x279002 x279003 0)
def impl_digest.l1:Nat→List Int→Int→Int→Int→Int→Int→Option (List Int)
 |0,_,_,_,_,_,_=>none
 |k+1,x6,x37,x41,x45,x49,x51=>if x51<4 then (if 0≤x51 then ((impl_fixed.f k x6 (wrap64 (pick4 x37 x41 x45 x49 x51)) 4).bind fun t311=>(impl_digest.l1 k t311 x37 x41 x45 x49 (wrap64 (x51+1)))) else (none)) else (some x6)
end
def impl_digest.f (k:Nat) (l0:List Int) (l1:List Int):Option (List Int):=(impl_stirrer_new.f).bind fun bt274=>((impl_fixed.f k ([]:List Int) (l0.length:Int) 4).bind fun t279=>((impl_stirrer_stir.f k bt274.1 bt274.2.1 bt274.2.2.1 bt274.2.2.2 t279).bind fun bt282=>((impl_stirrer_stir.f k bt282.1 bt282.2.1 bt282.2.2.1 bt282.2.2.2 l0).bind fun bt286=>((impl_stirrer_stir.f k bt286.1 bt286.2.1 bt286.2.2.1 bt286.2.2.2 l1).bind fun bt290=>((impl_fixed.f k ([]:List Int) (l1.length:Int) 4).bind fun t294=>((impl_stirrer_stir.f k bt290.1 bt290.2.1 bt290.2.2.1 bt290.2.2.2 t294).bind fun bt297=>(impl_digest.l0 k 0 bt297.1 bt297.2.1 bt297.2.2.1 bt297.2.2.2)))))))
set_option maxHeartbeats 8000000 in
set_option maxRecDepth 100000 in
theorem impl_digest.calls (k:Nat) (A0:Option Addr) (c0:Nat) (l0:List Int) (A1:Option Addr) (c1:Nat) (l1:List Int) (r:List Int) (w:World) (hr0:Kd.C (Kd.int .u8) w A0 l0.length l0) (hc0:l0.length≤c0) (hr1:Kd.C (Kd.int .u8) w A1 l1.length l1) (hc1:l1.length≤c1) (h:impl_digest.f k l0 l1=some r) :
  Calls Try.prog 51 #[.slice A0 l0.length c0, .slice A1 l1.length c1] w fun e w' =>∃ v0_:Value,e = .returned (v0_)∧Kd.R (Kd.int .u8) 5 w' w.heap.size (fun _=>True) v0_ r∧Below w.heap.size w w' :=by
 have HR0:=qm hr0
 have HC0:=qm hc0
 clear hr0 hc0
 have HR1:=qm hr1
 have HC1:=qm hc1
 clear hr1 hc1
 have HB:=qm (Below.refl w.heap.size w)
 have H:((impl_stirrer_new.f).bind fun bt274=>((impl_fixed.f k ([]:List Int) (l0.length:Int) 4).bind fun t279=>((impl_stirrer_stir.f k bt274.1 bt274.2.1 bt274.2.2.1 bt274.2.2.2 t279).bind fun bt282=>((impl_stirrer_stir.f k bt282.1 bt282.2.1 bt282.2.2.1 bt282.2.2.2 l0).bind fun bt286=>((impl_stirrer_stir.f k bt286.1 bt286.2.1 bt286.2.2.1 bt286.2.2.2 l1).bind fun bt290=>((impl_fixed.f k ([]:List Int) (l1.length:Int) 4).bind fun t294=>((impl_stirrer_stir.f k bt290.1 bt290.2.1 bt290.2.2.1 bt290.2.2.2 t294).bind fun bt297=>(impl_digest.l0 k 0 bt297.1 bt297.2.1 bt297.2.2.1 bt297.2.2.2))))))))=some r:=h
 clear h
 replace H:=Option.bind_eq_some_iff.mp H
 obtain ⟨⟨t274,t275,t276,t277⟩,A30,H⟩:=H
 simp only [impl_stirrer_new.f,Option.some.injEq,Prod.mk.injEq] at A30
 obtain ⟨rfl,rfl,rfl,rfl⟩:=A30
 try dsimp only at H
 replace H:=Option.bind_eq_some_iff.mp H
 obtain ⟨t279,A40,H⟩:=H
 try dsimp only at H
 have A4:=qm A40
 clear A40
 replace H:=Option.bind_eq_some_iff.mp H
 obtain ⟨⟨t282,t283,t284,t285⟩,A50,H⟩:=H
 try dsimp only at H
 have A5:=qm A50
 clear A50
 replace H:=Option.bind_eq_some_iff.mp H
 obtain ⟨⟨t286,t287,t288,t289⟩,A60,H⟩:=H
 try dsimp only at H
 have A6:=qm A60
 clear A60
 replace H:=Option.bind_eq_some_iff.mp H
 obtain ⟨⟨t290,t291,t292,t293⟩,A70,H⟩:=H
 try dsimp only at H
 have A7:=qm A70
 clear A70
 replace H:=Option.bind_eq_some_iff.mp H
 obtain ⟨t294,A80,H⟩:=H
 try dsimp only at H
 have A8:=qm A80
 clear A80
 replace H:=Option.bind_eq_some_iff.mp H
 obtain ⟨⟨t297,t298,t299,t300⟩,A90,H⟩:=H
 try dsimp only at H
 have A9:=qm A90
 clear A90
 have H' :=qm H
 clear H
 go_enter Try.func51,Try.ntmps51
 go_wp2_with (first|((with_reducible refine gate_dst (N:=10) rfl ?_);refine box_event (by rfl) (N:=10) (by rfl) (cs:=#[.int .u32 1779033703, .int .u32 3144134277, .int .u32 1013904242, .int .u32 2773480762]) (t:=79) (by first|(go_simp;done)|(go_simp;rfl)) ?_;intro g278 hg w10 hbox hb;have _:=qm (qt HB.out hb);have _:=qm (show IsS79 w _ g278 1779033703 3144134277 1013904242 2773480762 from ⟨hbox,by rw [hg];exact qs HB.out⟩);clear HB;rename_i HB HI278;clear hb hbox hg)|((with_reducible refine gate_callee (f:=80) rfl ?_);refine goesL_ (some 14) rfl rfl Try.func80 (by kernel_rfl) rfl #[.slice none 0 0, .int .i64 (l0.length:Int), .int .i64 4] rfl (by (try simp only [m1,m2,m3]);first|done|rfl) ?_;(refine (impl_fixed.calls k (fun k_=>some k_=(.slice none 0 0:Value).ownBlock) (.slice none 0 0) ([]:List Int) (l0.length:Int) 4 t279 w _ ?side1 ?side2 A4.out).mono ?_);(case side1=>repeat (first|(with_reducible first|exact HB.out|apply qh|apply qi|apply qj|refine qk ?_ (IsS79.ge HI278.out))|exact HB.out));(case side2=>exact Kd.R_nil _ _ _ _ _);rintro e w11 ⟨v280,rfl,ho0,hb,hkp⟩;refine ⟨_,rfl,?_⟩;have _:=qm (IsS79.kept (by repeat (first|(with_reducible first|exact HI278.out|apply IsS79.alloc|apply IsS79.drewN|apply IsS79.drew|apply IsS79.set_0|apply IsS79.set_1|apply IsS79.set_2|apply IsS79.set_3)|exact HI278.out)) hkp (fun hs_=>(fun e_=>by simp [Value.ownBlock] at e_) hs_));have _:=qm (qg (ok' :=fun k_=>True) ho0 (fun k_ hk_=>trivial));have _:=qm (hb);clear HI278 HB;rename_i HI278 HO281 HB;obtain ⟨Ao12,co12,eo12⟩:=Kd.R_slice HO281.out;subst eo12)|((with_reducible refine gate_callee (f:=79) rfl ?_);refine goesL_ (some 15) rfl rfl Try.func79 (by kernel_rfl) rfl #[.pointer (some ⟨g278,0,none⟩), .slice Ao12 t279.length co12] rfl (by (try simp only [m1,m2,m3]);first|done|rfl) ?_;(with_reducible refine (impl_stirrer_stir.calls k g278 1779033703 3144134277 1013904242 2773480762 _ _ t279 t282 t283 t284 t285 w _ ?side1 ?side2 ?side3 ?side4 ?side5 A5.out).mono ?_);(case side1=>repeat (first|(with_reducible first|exact HI278.out|apply IsS79.alloc|apply IsS79.drewN|apply IsS79.drew|apply IsS79.set_0|apply IsS79.set_1|apply IsS79.set_2|apply IsS79.set_3)|exact HI278.out));(case side2=>repeat (first|(with_reducible first|exact HB.out|apply qh|apply qi|apply qj|refine qk ?_ (IsS79.ge HI278.out))|exact HB.out));(case side3=>exact cb ((qe HO281.out).2.2));(case side4=>exact (qe HO281.out).2.1);(case side5=>exact far_slice (IsS79.own_ne HI278.out HO281.out (by decide)));rintro e w13 ⟨rfl,hi,hb,hk⟩;refine ⟨_,rfl,?_⟩;have _:=qm (qg (Kd.R_keep (IsS79.apart (show IsS79 w _ g278 1779033703 3144134277 1013904242 2773480762 from by repeat (first|(with_reducible first|exact HI278.out|apply IsS79.alloc|apply IsS79.drewN|apply IsS79.drew|apply IsS79.set_0|apply IsS79.set_1|apply IsS79.set_2|apply IsS79.set_3)|exact HI278.out)) HO281.out (by decide)) hk (fun _ h=>h.2)) (fun _ h=>h.1));have _:=qm (hb);have _:=qm (hi);clear HO281 HB HI278;rename_i HO281 HB HI278)|((with_reducible refine gate_callee (f:=79) rfl ?_);refine goesL_ (some 18) rfl rfl Try.func79 (by kernel_rfl) rfl #[.pointer (some ⟨g278,0,none⟩), .slice A0 l0.length c0] rfl (by (try simp only [m1,m2,m3]);first|done|rfl) ?_;(with_reducible refine (impl_stirrer_stir.calls k g278 t282 t283 t284 t285 _ _ l0 t286 t287 t288 t289 w _ ?side1 ?side2 ?side3 ?side4 ?side5 A6.out).mono ?_);(case side1=>repeat (first|(with_reducible first|exact HI278.out|apply IsS79.alloc|apply IsS79.drewN|apply IsS79.drew|apply IsS79.set_0|apply IsS79.set_1|apply IsS79.set_2|apply IsS79.set_3)|exact HI278.out));(case side2=>repeat (first|(with_reducible first|exact HB.out|apply qh|apply qi|apply qj|refine qk ?_ (IsS79.ge HI278.out))|exact HB.out));(case side3=>exact cb (Kd.C_below HR0.out HB.out));(case side4=>exact HC0.out);(case side5=>exact Kd.far_C 0 HR0.out (IsS79.ge HI278.out));rintro e w14 ⟨rfl,hi,hb,hk⟩;refine ⟨_,rfl,?_⟩;have _:=qm (qg (Kd.R_keep (IsS79.apart (show IsS79 w _ g278 t282 t283 t284 t285 from by repeat (first|(with_reducible first|exact HI278.out|apply IsS79.alloc|apply IsS79.drewN|apply IsS79.drew|apply IsS79.set_0|apply IsS79.set_1|apply IsS79.set_2|apply IsS79.set_3)|exact HI278.out)) HO281.out (by decide)) hk (fun _ h=>h.2)) (fun _ h=>h.1));have _:=qm (hb);have _:=qm (hi);clear HO281 HB HI278;rename_i HO281 HB HI278)|((with_reducible refine gate_callee (f:=79) rfl ?_);refine goesL_ (some 21) rfl rfl Try.func79 (by kernel_rfl) rfl #[.pointer (some ⟨g278,0,none⟩), .slice A1 l1.length c1] rfl (by (try simp only [m1,m2,m3]);first|done|rfl) ?_;(with_reducible refine (impl_stirrer_stir.calls k g278 t286 t287 t288 t289 _ _ l1 t290 t291 t292 t293 w _ ?side1 ?side2 ?side3 ?side4 ?side5 A7.out).mono ?_);(case side1=>repeat (first|(with_reducible first|exact HI278.out|apply IsS79.alloc|apply IsS79.drewN|apply IsS79.drew|apply IsS79.set_0|apply IsS79.set_1|apply IsS79.set_2|apply IsS79.set_3)|exact HI278.out));(case side2=>repeat (first|(with_reducible first|exact HB.out|apply qh|apply qi|apply qj|refine qk ?_ (IsS79.ge HI278.out))|exact HB.out));(case side3=>exact cb (Kd.C_below HR1.out HB.out));(case side4=>exact HC1.out);(case side5=>exact Kd.far_C 0 HR1.out (IsS79.ge HI278.out));rintro e w15 ⟨rfl,hi,hb,hk⟩;refine ⟨_,rfl,?_⟩;have _:=qm (qg (Kd.R_keep (IsS79.apart (show IsS79 w _ g278 t286 t287 t288 t289 from by repeat (first|(with_reducible first|exact HI278.out|apply IsS79.alloc|apply IsS79.drewN|apply IsS79.drew|apply IsS79.set_0|apply IsS79.set_1|apply IsS79.set_2|apply IsS79.set_3)|exact HI278.out)) HO281.out (by decide)) hk (fun _ h=>h.2)) (fun _ h=>h.1));have _:=qm (hb);have _:=qm (hi);clear HO281 HB HI278;rename_i HO281 HB HI278)|((with_reducible refine gate_callee (f:=80) rfl ?_);refine goesL_ (some 25) rfl rfl Try.func80 (by kernel_rfl) rfl #[.slice none 0 0, .int .i64 (l1.length:Int), .int .i64 4] rfl (by (try simp only [m1,m2,m3]);first|done|rfl) ?_;(refine (impl_fixed.calls k (fun k_=>some k_=(.slice none 0 0:Value).ownBlock) (.slice none 0 0) ([]:List Int) (l1.length:Int) 4 t294 w _ ?side1 ?side2 A8.out).mono ?_);(case side1=>repeat (first|(with_reducible first|exact HB.out|apply qh|apply qi|apply qj|refine qk ?_ (IsS79.ge HI278.out))|exact HB.out));(case side2=>exact Kd.R_nil _ _ _ _ _);rintro e w16 ⟨v295,rfl,ho0,hb,hkp⟩;refine ⟨_,rfl,?_⟩;have _:=qm (IsS79.kept (by repeat (first|(with_reducible first|exact HI278.out|apply IsS79.alloc|apply IsS79.drewN|apply IsS79.drew|apply IsS79.set_0|apply IsS79.set_1|apply IsS79.set_2|apply IsS79.set_3)|exact HI278.out)) hkp (fun hs_=>(fun e_=>by simp [Value.ownBlock] at e_) hs_));have _:=qm (qg (ok' :=fun k_=>ob k_ v295) (Kd.R_keptB (HO281.out) hkp (fun k_ hk_ hs_=>(fun e_=>by simp [Value.ownBlock] at e_) hs_)) (fun k_ hk_=>fun e_=>Or.elim (ho0.1 k_ e_.symm) (fun hs_=>hk_.2.1 hs_) (fun hn_=>Nat.not_le.2 hk_.2.2 hn_)));have _:=qm (qg (ok' :=fun k_=>ob k_ (.slice Ao12 t279.length co12)) ho0 (fun k_ hk_=>Or.elim hk_ (fun hs_=>absurd hs_ (by simp [Value.ownBlock])) (fun hn_=>(Kd.fresh' (Kd.R_lt HO281.out) k_ hn_))));have _:=qm (hb);clear HI278 HO281 HB;rename_i HI278 HO281 HO296 HB;obtain ⟨Ao17,co17,eo17⟩:=Kd.R_slice HO296.out;subst eo17)|((with_reducible refine gate_callee (f:=79) rfl ?_);refine goesL_ (some 26) rfl rfl Try.func79 (by kernel_rfl) rfl #[.pointer (some ⟨g278,0,none⟩), .slice Ao17 t294.length co17] rfl (by (try simp only [m1,m2,m3]);first|done|rfl) ?_;(with_reducible refine (impl_stirrer_stir.calls k g278 t290 t291 t292 t293 _ _ t294 t297 t298 t299 t300 w _ ?side1 ?side2 ?side3 ?side4 ?side5 A9.out).mono ?_);(case side1=>repeat (first|(with_reducible first|exact HI278.out|apply IsS79.alloc|apply IsS79.drewN|apply IsS79.drew|apply IsS79.set_0|apply IsS79.set_1|apply IsS79.set_2|apply IsS79.set_3)|exact HI278.out));(case side2=>repeat (first|(with_reducible first|exact HB.out|apply qh|apply qi|apply qj|refine qk ?_ (IsS79.ge HI278.out))|exact HB.out));(case side3=>exact cb ((qe HO296.out).2.2));(case side4=>exact (qe HO296.out).2.1);(case side5=>exact far_slice (IsS79.own_ne HI278.out HO296.out (by decide)));rintro e w18 ⟨rfl,hi,hb,hk⟩;refine ⟨_,rfl,?_⟩;have _:=qm (qg (Kd.R_keep (IsS79.apart (show IsS79 w _ g278 t290 t291 t292 t293 from by repeat (first|(with_reducible first|exact HI278.out|apply IsS79.alloc|apply IsS79.drewN|apply IsS79.drew|apply IsS79.set_0|apply IsS79.set_1|apply IsS79.set_2|apply IsS79.set_3)|exact HI278.out)) HO281.out (by decide)) hk (fun _ h=>h.2)) (fun _ h=>h.1));have _:=qm (qg (Kd.R_keep (IsS79.apart (show IsS79 w _ g278 t290 t291 t292 t293 from by repeat (first|(with_reducible first|exact HI278.out|apply IsS79.alloc|apply IsS79.drewN|apply IsS79.drew|apply IsS79.set_0|apply IsS79.set_1|apply IsS79.set_2|apply IsS79.set_3)|exact HI278.out)) HO296.out (by decide)) hk (fun _ h=>h.2)) (fun _ h=>h.1));have _:=qm (hb);have _:=qm (hi);clear HO281 HO296 HB HI278;rename_i HO281 HO296 HB HI278))
 go_loopg [27] k (fun kq v27 w' =>∃ (x27_1:Int) (x279000_1:Int) (x279001_1:Int) (x279002_1:Int) (x279003_1:Int),v27 = .int .i64 x27_1∧Aside0 (impl_digest.l0 kq x27_1 x279000_1 x279001_1 x279002_1 x279003_1=some r)∧Aside0 (kq≤k)∧Aside0 (IsS79 w w' g278 x279000_1 x279001_1 x279002_1 x279003_1)∧Aside0 (Below w.heap.size w w'))
 case atStart=>exact ⟨(0),(t297),(t298),(t299),(t300),(by first|rfl|(simp;done)|(simp [*];done)),H',⟨Nat.le_refl _⟩,⟨by repeat (first|(with_reducible first|exact HI278.out|apply IsS79.alloc|apply IsS79.drewN|apply IsS79.drew|apply IsS79.set_0|apply IsS79.set_1|apply IsS79.set_2|apply IsS79.set_3)|exact HI278.out)⟩,⟨HB.out⟩⟩
 case round=>
  clear H'
  try clear c1
  obtain ⟨x27_1,x279000_1,x279001_1,x279002_1,x279003_1,rfl,HA,HK1,HI278,HB⟩:=hrel
  cases gk with
  |zero=>exact absurd HA.out (by simp [impl_digest.l0])
  |succ k1=>?_
  have H:=HA.out
  clear HA
  simp only [impl_digest.l0] at H
  by_cases c19:x27_1<16
  ·rw [if_pos c19] at H
   have c19b0:decide (x27_1<16)=true:=decide_eq_true c19
   clear c19
   obtain ⟨y301,hy301⟩:∃ y_:List Int,y_=(([165]:List Int)):=⟨_,rfl⟩
   replace H:((impl_stirrer_stir.f k1 x279000_1 x279001_1 x279002_1 x279003_1 y301).bind fun bt304=>(impl_digest.l0 k1 (wrap64 (x27_1+1)) bt304.1 bt304.2.1 bt304.2.2.1 bt304.2.2.2))=some r:=by first|(rw [hy301];with_reducible exact H)|(have H2_:=(Option.bind_some _ _).symm.trans H;rw [hy301];with_reducible exact H2_)|(have H2_:=(Option.bind_some _ _).symm.trans H;with_reducible exact H2_)|with_reducible exact H|(rw [hy301];exact H)|exact H
   have Ny301:=qm hy301
   clear hy301
   replace H:=Option.bind_eq_some_iff.mp H
   obtain ⟨⟨t304,t305,t306,t307⟩,A200,H⟩:=H
   try dsimp only at H
   have A20:=qm A200
   clear A200
   have H' :=qm H
   clear H
   go_wp2_with (first|((with_reducible refine gate_dst (N:=30) rfl ?_);refine Kd.R_lit (Kd.int .u8) _ 5 ?hg (N:=30) ?hd (xs:=([165]:List Int)) (inner:=[.int .u8 165]) (ok:=fun _=>True) (okp:=fun _=>True) ?hr ?hp (fun _ hk=>hk) trivial (Below.refl _ _) (Nat.le_refl _) (by simp) ?_;(case hd=>rfl);(case hg=>rfl);(case hr=>first|(go_simp;done)|(go_simp;rfl));(case hp=>exact (Reps.one (show Kd.M (Kd.int .u8) _ _ _ 165 [.int .u8 165] from rfl) (Reps.none _ _)));intro v302 w21 ho22 hb hg_ hnew_;clear hg_ hnew_;(first|rw [←Ny301.out] at ho22|(simp only [Int.reduceToNat] at ho22;rw [←Ny301.out] at ho22));have _:=qm (Kd.R_lower ho22 (qs HB.out));have _:=qm (IsS79.below (by repeat (first|(with_reducible first|exact HI278.out|apply IsS79.alloc|apply IsS79.drewN|apply IsS79.drew|apply IsS79.set_0|apply IsS79.set_1|apply IsS79.set_2|apply IsS79.set_3)|exact HI278.out)) hb);have _:=qm (qt HB.out hb);clear HI278 HB;rename_i HO303 HI278 HB;clear hb ho22;obtain ⟨Ao23,co23,eo23⟩:=Kd.R_slice HO303.out;subst eo23)|((with_reducible refine gate_callee (f:=79) rfl ?_);refine goesL_ (some 31) rfl rfl Try.func79 (by kernel_rfl) rfl #[.pointer (some ⟨g278,0,none⟩), .slice Ao23 y301.length co23] rfl (by (try simp only [m1,m2,m3]);first|done|rfl) ?_;(with_reducible refine (impl_stirrer_stir.calls k1 g278 x279000_1 x279001_1 x279002_1 x279003_1 _ _ y301 t304 t305 t306 t307 w _ ?side1 ?side2 ?side3 ?side4 ?side5 A20.out).mono ?_);(case side1=>repeat (first|(with_reducible first|exact HI278.out|apply IsS79.alloc|apply IsS79.drewN|apply IsS79.drew|apply IsS79.set_0|apply IsS79.set_1|apply IsS79.set_2|apply IsS79.set_3)|exact HI278.out));(case side2=>repeat (first|(with_reducible first|exact HB.out|apply qh|apply qi|apply qj|refine qk ?_ (IsS79.ge HI278.out))|exact HB.out));(case side3=>exact cb ((qe HO303.out).2.2));(case side4=>exact (qe HO303.out).2.1);(case side5=>exact far_slice (IsS79.own_ne HI278.out HO303.out (by decide)));rintro e w24 ⟨rfl,hi,hb,hk⟩;refine ⟨_,rfl,?_⟩;have _:=qm (qg (Kd.R_keep (IsS79.apart (show IsS79 w _ g278 x279000_1 x279001_1 x279002_1 x279003_1 from by repeat (first|(with_reducible first|exact HI278.out|apply IsS79.alloc|apply IsS79.drewN|apply IsS79.drew|apply IsS79.set_0|apply IsS79.set_1|apply IsS79.set_2|apply IsS79.set_3)|exact HI278.out)) HO303.out (by decide)) hk (fun _ h=>h.2)) (fun _ h=>h.1));have _:=qm (hb);have _:=qm (hi);clear HO303 HB HI278;rename_i HO303 HB HI278))
   go_roundg k1
   case measure=>have:=HK1.out;omega
   case rel=>exact ⟨(wrap64 (x27_1+1)),(t304),(t305),(t306),(t307),rfl,H',⟨by have:=HK1.out;omega⟩,⟨by repeat (first|(with_reducible first|exact HI278.out|apply IsS79.alloc|apply IsS79.drewN|apply IsS79.drew|apply IsS79.set_0|apply IsS79.set_1|apply IsS79.set_2|apply IsS79.set_3)|exact HI278.out)⟩,⟨HB.out⟩⟩
  rw [if_neg c19] at H
  have c19b0:decide (x27_1<16)=false:=decide_eq_false c19
  clear c19
  obtain ⟨y308,hy308⟩:∃ y_:List Int,y_=(([]:List Int)):=⟨_,rfl⟩
  replace H:(impl_digest.l1 k1 y308 x279000_1 x279001_1 x279002_1 x279003_1 0)=some r:=by first|(rw [hy308];with_reducible exact H)|(have H2_:=(Option.bind_some _ _).symm.trans H;rw [hy308];with_reducible exact H2_)|(have H2_:=(Option.bind_some _ _).symm.trans H;with_reducible exact H2_)|with_reducible exact H|(rw [hy308];exact H)|exact H
  have Ny308:=qm hy308
  clear hy308
  have H' :=qm H
  clear H
  go_wp2_with (first|((with_reducible refine gate_dst (N:=33) rfl ?_);refine Kd.R_lit (Kd.int .u8) _ 5 ?hg (N:=33) ?hd (xs:=([]:List Int)) (inner:=[]) (ok:=fun _=>True) (okp:=fun _=>True) ?hr ?hp (fun _ hk=>hk) trivial (Below.refl _ _) (Nat.le_refl _) (by simp) ?_;(case hd=>rfl);(case hg=>rfl);(case hr=>first|(go_simp;done)|(go_simp;rfl));(case hp=>exact (Reps.none _ _));intro v309 w25 ho26 hb hg_ hnew_;clear hg_ hnew_;(first|rw [←Ny308.out] at ho26|(simp only [Int.reduceToNat] at ho26;rw [←Ny308.out] at ho26));have _:=qm (Kd.R_lower ho26 (qs (by repeat (first|(with_reducible first|exact HB.out|apply qh|apply qi|apply qj|refine qk ?_ (IsS79.ge HI278.out))|exact HB.out))));have _:=qm (IsS79.below (by repeat (first|(with_reducible first|exact HI278.out|apply IsS79.alloc|apply IsS79.drewN|apply IsS79.drew|apply IsS79.set_0|apply IsS79.set_1|apply IsS79.set_2|apply IsS79.set_3)|exact HI278.out)) hb);have _:=qm (qt (by repeat (first|(with_reducible first|exact HB.out|apply qh|apply qi|apply qj|refine qk ?_ (IsS79.ge HI278.out))|exact HB.out)) hb);clear HI278 HB;rename_i HO310 HI278 HB;clear hb ho26;obtain ⟨HGz27,hgz27⟩:=HI278.out;have hcz27_0:=cellS79_0 HGz27;have hcz27_1:=cellS79_1 HGz27;have hcz27_2:=cellS79_2 HGz27;have hcz27_3:=cellS79_3 HGz27;have hfz27_0:=blk_frozen HGz27 0;have hfz27_1:=blk_frozen HGz27 1;have hfz27_2:=blk_frozen HGz27 2;have hfz27_3:=blk_frozen HGz27 3;clear HGz27 hgz27))
  go_quiet (fail)
  go_wp2
  go_loopg [6,51] k1 (fun kq v6 v51 w' =>∃ (x6_2:List Int) (x51_2:Int),v51 = .int .i64 x51_2∧Aside0 (impl_digest.l1 kq x6_2 x279000_1 x279001_1 x279002_1 x279003_1 x51_2=some r)∧Aside0 (kq≤k1)∧Aside0 (Kd.R (Kd.int .u8) 5 w' w.heap.size (fun _=>True) v6 x6_2)∧Aside0 (Below w.heap.size w w'))
  case atStart=>exact ⟨(y308),(0),(by first|rfl|(simp;done)|(simp [*];done)),H',⟨Nat.le_refl _⟩,⟨rb HO310.out⟩,⟨by repeat (first|(with_reducible first|exact HB.out|apply qh|apply qi|apply qj|refine qk ?_ (IsS79.ge HI278.out))|exact HB.out)⟩⟩
  case round=>
   clear H'
   try clear c1
   try clear c19
   try clear c19b0
   try clear hcz27_0
   try clear hcz27_1
   try clear hcz27_2
   try clear hcz27_3
   try clear hfz27_0
   try clear hfz27_1
   try clear hfz27_2
   try clear hfz27_3
   obtain ⟨x6_2,x51_2,rfl,HA,HK2,HO_6,HB⟩:=hrel
   cases gk with
   |zero=>exact absurd HA.out (by simp [impl_digest.l1])
   |succ k2=>?_
   have H:=HA.out
   clear HA
   simp only [impl_digest.l1] at H
   by_cases c28:x51_2<4
   ·rw [if_pos c28] at H
    by_cases c30:0≤x51_2
    ·rw [if_pos c30] at H
     have c28b0:decide (x51_2<4)=true:=decide_eq_true c28
     replace H:=Option.bind_eq_some_iff.mp H
     obtain ⟨t311,A290,H⟩:=H
     try dsimp only at H
     have A29:=qm A290
     clear A290
     have H' :=qm H
     clear H
     obtain ⟨Ao30,co30,eo30⟩:=Kd.R_slice HO_6.out
     subst eo30
     have hidx:=fun (w:World)=>pick4_run x279000_1 x279001_1 x279002_1 x279003_1 x51_2 c30 c28 w
     clear c28 c30
     go_wp2_with (first|((with_reducible refine gate_callee (f:=80) rfl ?_);refine goesL_ (some 57) rfl rfl Try.func80 (by kernel_rfl) rfl #[.slice Ao30 x6_2.length co30, .int .i64 (wrap64 (pick4 x279000_1 x279001_1 x279002_1 x279003_1 x51_2)), .int .i64 4] rfl (by (try simp only [m1,m2,m3]);first|done|rfl) ?_;(with_reducible refine (impl_fixed.calls k2 (fun k_=>some k_=(.slice Ao30 x6_2.length co30:Value).ownBlock) (.slice Ao30 x6_2.length co30) x6_2 (wrap64 (pick4 x279000_1 x279001_1 x279002_1 x279003_1 x51_2)) 4 t311 w _ ?side1 ?side2 A29.out).mono ?_);(case side1=>repeat (first|(with_reducible first|exact HB.out|apply qh|apply qi|apply qj)|exact HB.out));(case side2=>exact Kd.R_tight rfl HO_6.out);rintro e w31 ⟨v312,rfl,ho0,hb,hkp⟩;refine ⟨_,rfl,?_⟩;have _:=qm (qg (ok' :=fun k_=>True) ho0 (fun k_ hk_=>trivial));have _:=qm (hb);clear HB HO_6;rename_i HO313 HB))
     go_roundg k2
     case measure=>have:=HK1.out;have:=HK2.out;omega
     case rel=>exact ⟨(t311),(wrap64 (x51_2+1)),rfl,H',⟨by have:=HK1.out;have:=HK2.out;omega⟩,⟨HO313.out⟩,⟨HB.out⟩⟩
    rw [if_neg c30] at H
    exact absurd H (by simp)
   rw [if_neg c28] at H
   have c28b0:decide (x51_2<4)=false:=decide_eq_false c28
   clear c28
   obtain rfl:=Option.some.inj H
   go_wp2
   go_ret
   exact ⟨_,by first|rfl|(simp <;> rfl)|(simp [*] <;> rfl),HO_6.out,HB.out⟩
def impl_keysOK.f (l0_0:List Int) (l0_1:List Int) (l0_2:List Int) (l0_3:List Int):Option (Bool):=if (l0_0.length:Int)=16 then (if (l0_1.length:Int)=16 then (if (l0_3.length:Int)=16 then (some ((l0_2.length:Int) == 8)) else (some false)) else (some false)) else (some false)
set_option maxHeartbeats 8000000 in
set_option maxRecDepth 100000 in
theorem impl_keysOK.calls (A0_0:Option Addr) (c0_0:Nat) (l0_0:List Int) (A0_1:Option Addr) (c0_1:Nat) (l0_1:List Int) (A0_2:Option Addr) (c0_2:Nat) (l0_2:List Int) (A0_3:Option Addr) (c0_3:Nat) (l0_3:List Int) (r:Bool) (w:World) (hr0_0:Kd.C (Kd.int .u8) w A0_0 l0_0.length l0_0) (hc0_0:l0_0.length≤c0_0) (hr0_1:Kd.C (Kd.int .u8) w A0_1 l0_1.length l0_1) (hc0_1:l0_1.length≤c0_1) (hr0_2:Kd.C (Kd.int .u8) w A0_2 l0_2.length l0_2) (hc0_2:l0_2.length≤c0_2) (hr0_3:Kd.C (Kd.int .u8) w A0_3 l0_3.length l0_3) (hc0_3:l0_3.length≤c0_3) (h:impl_keysOK.f l0_0 l0_1 l0_2 l0_3=some r) :
  Calls Try.prog 56 #[.agg #[.slice A0_0 l0_0.length c0_0, .slice A0_1 l0_1.length c0_1, .slice A0_2 l0_2.length c0_2, .slice A0_3 l0_3.length c0_3]] w fun e w' =>e = .returned (.bool r)∧Below w.heap.size w w' :=by
 have hu33:=Try.underlying33
 have HR0_0:=qm hr0_0
 have HC0_0:=qm hc0_0
 clear hr0_0 hc0_0
 have HR0_1:=qm hr0_1
 have HC0_1:=qm hc0_1
 clear hr0_1 hc0_1
 have HR0_2:=qm hr0_2
 have HC0_2:=qm hc0_2
 clear hr0_2 hc0_2
 have HR0_3:=qm hr0_3
 have HC0_3:=qm hc0_3
 clear hr0_3 hc0_3
 have HB:=qm (Below.refl w.heap.size w)
 have H:(if (l0_0.length:Int)=16 then (if (l0_1.length:Int)=16 then (if (l0_3.length:Int)=16 then (some ((l0_2.length:Int) == 8)) else (some false)) else (some false)) else (some false))=some r:=h
 clear h
 by_cases c2:(l0_0.length:Int)=16
 ·rw [if_pos c2] at H
  have c2b0:((l0_0.length:Int) == 16)=true:=beq_iff_eq.mpr c2
  have c2b1:((l0_0.length:Int) != 16)=false:=bne_eq_false_iff_eq.mpr c2
  clear c2
  by_cases c3:(l0_1.length:Int)=16
  ·rw [if_pos c3] at H
   have c3b0:((l0_1.length:Int) == 16)=true:=beq_iff_eq.mpr c3
   have c3b1:((l0_1.length:Int) != 16)=false:=bne_eq_false_iff_eq.mpr c3
   clear c3
   by_cases c4:(l0_3.length:Int)=16
   ·rw [if_pos c4] at H
    have c4b0:((l0_3.length:Int) == 16)=true:=beq_iff_eq.mpr c4
    have c4b1:((l0_3.length:Int) != 16)=false:=bne_eq_false_iff_eq.mpr c4
    clear c4
    obtain rfl:=Option.some.inj H
    go_enter Try.func56,Try.ntmps56
    go_wp2_with (first|((with_reducible refine gate_dst (N:=1) rfl ?_);(try (refine gate_guard (by rfl) ?_;dsimp only));refine box_event (by rfl) (N:=1) (by rfl) (cs:=#[.slice A0_0 l0_0.length c0_0, .slice A0_1 l0_1.length c0_1, .slice A0_2 l0_2.length c0_2, .slice A0_3 l0_3.length c0_3]) (t:=33) (by first|(go_simp;done)|(go_simp;rfl)) ?_;intro gb494 hg w5 hbox hb;have _:=qm (qt HB.out hb);have _:=qm (hbox);have _:=qm ((gs hg (qs HB.out)));have _:=qm ((gs hg (qs HB.out)));clear HB;rename_i HB BK494 GW494 GE494;clear hb hbox hg;obtain ⟨_,_,_,_,_,_,_,_⟩:=fc4 BK494.out))
    go_ret
    exact ⟨by first|rfl|(simp <;> rfl)|(simp [*] <;> rfl),HB.out⟩
   rw [if_neg c4] at H
   have c4b0:((l0_3.length:Int) == 16)=false:=beq_eq_false_iff_ne.mpr c4
   have c4b1:((l0_3.length:Int) != 16)=true:=bne_iff_ne.mpr c4
   obtain rfl:=Option.some.inj H
   go_enter Try.func56,Try.ntmps56
   go_wp2_with (first|((with_reducible refine gate_dst (N:=1) rfl ?_);(try (refine gate_guard (by rfl) ?_;dsimp only));refine box_event (by rfl) (N:=1) (by rfl) (cs:=#[.slice A0_0 l0_0.length c0_0, .slice A0_1 l0_1.length c0_1, .slice A0_2 l0_2.length c0_2, .slice A0_3 l0_3.length c0_3]) (t:=33) (by first|(go_simp;done)|(go_simp;rfl)) ?_;intro gb494 hg w7 hbox hb;have _:=qm (qt HB.out hb);have _:=qm (hbox);have _:=qm ((gs hg (qs HB.out)));have _:=qm ((gs hg (qs HB.out)));clear HB;rename_i HB BK494 GW494 GE494;clear hb hbox hg;obtain ⟨_,_,_,_,_,_,_,_⟩:=fc4 BK494.out))
   go_ret
   exact ⟨by first|rfl|(simp <;> rfl)|(simp [*] <;> rfl),HB.out⟩
  rw [if_neg c3] at H
  have c3b0:((l0_1.length:Int) == 16)=false:=beq_eq_false_iff_ne.mpr c3
  have c3b1:((l0_1.length:Int) != 16)=true:=bne_iff_ne.mpr c3
  obtain rfl:=Option.some.inj H
  go_enter Try.func56,Try.ntmps56
  go_wp2_with (first|((with_reducible refine gate_dst (N:=1) rfl ?_);(try (refine gate_guard (by rfl) ?_;dsimp only));refine box_event (by rfl) (N:=1) (by rfl) (cs:=#[.slice A0_0 l0_0.length c0_0, .slice A0_1 l0_1.length c0_1, .slice A0_2 l0_2.length c0_2, .slice A0_3 l0_3.length c0_3]) (t:=33) (by first|(go_simp;done)|(go_simp;rfl)) ?_;intro gb494 hg w9 hbox hb;have _:=qm (qt HB.out hb);have _:=qm (hbox);have _:=qm ((gs hg (qs HB.out)));have _:=qm ((gs hg (qs HB.out)));clear HB;rename_i HB BK494 GW494 GE494;clear hb hbox hg;obtain ⟨_,_,_,_,_,_,_,_⟩:=fc4 BK494.out))
  go_ret
  exact ⟨by first|rfl|(simp <;> rfl)|(simp [*] <;> rfl),HB.out⟩
 rw [if_neg c2] at H
 have c2b0:((l0_0.length:Int) == 16)=false:=beq_eq_false_iff_ne.mpr c2
 have c2b1:((l0_0.length:Int) != 16)=true:=bne_iff_ne.mpr c2
 obtain rfl:=Option.some.inj H
 go_enter Try.func56,Try.ntmps56
 go_wp2_with (first|((with_reducible refine gate_dst (N:=1) rfl ?_);(try (refine gate_guard (by rfl) ?_;dsimp only));refine box_event (by rfl) (N:=1) (by rfl) (cs:=#[.slice A0_0 l0_0.length c0_0, .slice A0_1 l0_1.length c0_1, .slice A0_2 l0_2.length c0_2, .slice A0_3 l0_3.length c0_3]) (t:=33) (by first|(go_simp;done)|(go_simp;rfl)) ?_;intro gb494 hg w11 hbox hb;have _:=qm (qt HB.out hb);have _:=qm (hbox);have _:=qm ((gs hg (qs HB.out)));have _:=qm ((gs hg (qs HB.out)));clear HB;rename_i HB BK494 GW494 GE494;clear hb hbox hg;obtain ⟨_,_,_,_,_,_,_,_⟩:=fc4 BK494.out))
 go_ret
 exact ⟨by first|rfl|(simp <;> rfl)|(simp [*] <;> rfl),HB.out⟩
def impl_HeadMask.f (k:Nat) (l0_0:List Int) (l0_1:List Int) (l0_2:List Int) (l0_3:List Int) (l1:List Int):Option (List Int):=(impl_keysOK.f l0_0 l0_1 l0_2 l0_3).bind fun t496=>(if t496=true then (if (l1.length:Int)=8 then ((some (([]:List Int):List Int)).bind fun y497=>((impl_digest.f k l0_3 l1).bind fun t500=>(if 5≤(t500.length:Int) then ((some (t500.take 5:List Int)).bind fun y503=>(if y497.length+y503.length<140737488355328 then (some (y497 ++ y503)) else (none))) else (none)))) else (some ([]:List Int))) else (some ([]:List Int)))
set_option maxHeartbeats 8000000 in
set_option maxRecDepth 100000 in
theorem impl_HeadMask.calls (k:Nat) (A0_0:Option Addr) (c0_0:Nat) (l0_0:List Int) (A0_1:Option Addr) (c0_1:Nat) (l0_1:List Int) (A0_2:Option Addr) (c0_2:Nat) (l0_2:List Int) (A0_3:Option Addr) (c0_3:Nat) (l0_3:List Int) (A1:Option Addr) (c1:Nat) (l1:List Int) (r:List Int) (w:World) (hr0_0:Kd.C (Kd.int .u8) w A0_0 l0_0.length l0_0) (hc0_0:l0_0.length≤c0_0) (hr0_1:Kd.C (Kd.int .u8) w A0_1 l0_1.length l0_1) (hc0_1:l0_1.length≤c0_1) (hr0_2:Kd.C (Kd.int .u8) w A0_2 l0_2.length l0_2) (hc0_2:l0_2.length≤c0_2) (hr0_3:Kd.C (Kd.int .u8) w A0_3 l0_3.length l0_3) (hc0_3:l0_3.length≤c0_3) (hr1:Kd.C (Kd.int .u8) w A1 l1.length l1) (hc1:l1.length≤c1) (h:impl_HeadMask.f k l0_0 l0_1 l0_2 l0_3 l1=some r) :
  Calls Try.prog 27 #[.agg #[.slice A0_0 l0_0.length c0_0, .slice A0_1 l0_1.length c0_1, .slice A0_2 l0_2.length c0_2, .slice A0_3 l0_3.length c0_3], .slice A1 l1.length c1] w fun e w' =>∃ v0_:Value,e = .returned (v0_)∧Kd.R (Kd.int .u8) 5 w' w.heap.size (fun _=>True) v0_ r∧Below w.heap.size w w' :=by
 have hu33:=Try.underlying33
 have HR0_0:=qm hr0_0
 have HC0_0:=qm hc0_0
 clear hr0_0 hc0_0
 have HR0_1:=qm hr0_1
 have HC0_1:=qm hc0_1
 clear hr0_1 hc0_1
 have HR0_2:=qm hr0_2
 have HC0_2:=qm hc0_2
 clear hr0_2 hc0_2
 have HR0_3:=qm hr0_3
 have HC0_3:=qm hc0_3
 clear hr0_3 hc0_3
 have HR1:=qm hr1
 have HC1:=qm hc1
 clear hr1 hc1
 have HB:=qm (Below.refl w.heap.size w)
 have H:((impl_keysOK.f l0_0 l0_1 l0_2 l0_3).bind fun t496=>(if t496=true then (if (l1.length:Int)=8 then ((some (([]:List Int):List Int)).bind fun y497=>((impl_digest.f k l0_3 l1).bind fun t500=>(if 5≤(t500.length:Int) then ((some (t500.take 5:List Int)).bind fun y503=>(if y497.length+y503.length<140737488355328 then (some (y497 ++ y503)) else (none))) else (none)))) else (some ([]:List Int))) else (some ([]:List Int))))=some r:=h
 clear h
 replace H:=Option.bind_eq_some_iff.mp H
 obtain ⟨t496,A30,H⟩:=H
 try dsimp only at H
 have A3:=qm A30
 clear A30
 by_cases c4:t496=true
 ·subst c4
  rw [if_pos rfl] at H
  by_cases c5:(l1.length:Int)=8
  ·rw [if_pos c5] at H
   have c5b0:((l1.length:Int) == 8)=true:=beq_iff_eq.mpr c5
   have c5b1:((l1.length:Int) != 8)=false:=bne_eq_false_iff_eq.mpr c5
   clear c5
   obtain ⟨y497,hy497⟩:∃ y_:List Int,y_=(([]:List Int)):=⟨_,rfl⟩
   replace H:((impl_digest.f k l0_3 l1).bind fun t500=>(if 5≤(t500.length:Int) then ((some (t500.take 5:List Int)).bind fun y503=>(if y497.length+y503.length<140737488355328 then (some (y497 ++ y503)) else (none))) else (none)))=some r:=by first|(rw [hy497];with_reducible exact H)|(have H2_:=(Option.bind_some _ _).symm.trans H;rw [hy497];with_reducible exact H2_)|(have H2_:=(Option.bind_some _ _).symm.trans H;with_reducible exact H2_)|with_reducible exact H|(rw [hy497];exact H)|exact H
   have Ny497:=qm hy497
   clear hy497
   replace H:=Option.bind_eq_some_iff.mp H
   obtain ⟨t500,A60,H⟩:=H
   try dsimp only at H
   have A6:=qm A60
   clear A60
   by_cases c7:5≤(t500.length:Int)
   ·rw [if_pos c7] at H
    have c7b0:=eq_true c7
    have c7b1:decide (5≤(t500.length:Int))=true:=decide_eq_true c7
    clear c7
    obtain ⟨y503,hy503⟩:∃ y_:List Int,y_=(t500.take 5):=⟨_,rfl⟩
    replace H:(if y497.length+y503.length<140737488355328 then (some (y497 ++ y503)) else (none))=some r:=by first|(rw [hy503];with_reducible exact H)|(have H2_:=(Option.bind_some _ _).symm.trans H;rw [hy503];with_reducible exact H2_)|(have H2_:=(Option.bind_some _ _).symm.trans H;with_reducible exact H2_)|with_reducible exact H|(rw [hy503];exact H)|exact H
    have Ny503:=qm hy503
    clear hy503
    by_cases c8:y497.length+y503.length<140737488355328
    ·rw [if_pos c8] at H
     have LMc8:=qm c8
     clear c8
     obtain ⟨y507,hy507⟩:∃ y_:List Int,y_=(y497 ++ y503):=⟨_,rfl⟩
     replace H:(some y507)=some r:=by first|(rw [hy507];with_reducible exact H)|(have H2_:=(Option.bind_some _ _).symm.trans H;rw [hy507];with_reducible exact H2_)|(have H2_:=(Option.bind_some _ _).symm.trans H;with_reducible exact H2_)|with_reducible exact H|(rw [hy507];exact H)|exact H
     have Ny507:=qm hy507
     clear hy507
     obtain rfl:=Option.some.inj H
     go_enter Try.func27,Try.ntmps27
     go_wp2_with (first|((with_reducible refine gate_dst (N:=2) rfl ?_);(try (refine gate_guard (by rfl) ?_;dsimp only));refine box_event (by rfl) (N:=2) (by rfl) (cs:=#[.slice A0_0 l0_0.length c0_0, .slice A0_1 l0_1.length c0_1, .slice A0_2 l0_2.length c0_2, .slice A0_3 l0_3.length c0_3]) (t:=33) (by first|(go_simp;done)|(go_simp;rfl)) ?_;intro gb495 hg w9 hbox hb;have _:=qm (qt HB.out hb);have _:=qm (hbox);have _:=qm ((gs hg (qs HB.out)));have _:=qm ((gs hg (qs HB.out)));clear HB;rename_i HB BK495 GW495 GE495;clear hb hbox hg;obtain ⟨_,_,_,_,_,_,_,_⟩:=fc4 BK495.out)|((with_reducible refine gate_callee (f:=56) rfl ?_);refine goesL_ (some 6) rfl rfl Try.func56 (by kernel_rfl) rfl #[.agg #[.slice A0_0 l0_0.length c0_0, .slice A0_1 l0_1.length c0_1, .slice A0_2 l0_2.length c0_2, .slice A0_3 l0_3.length c0_3]] rfl (by (try simp only [m1,m2,m3]);first|done|rfl) ?_;(with_reducible refine (impl_keysOK.calls _ _ l0_0 _ _ l0_1 _ _ l0_2 _ _ l0_3 true _ ?side1 ?side2 ?side3 ?side4 ?side5 ?side6 ?side7 ?side8 A3.out).mono ?_);(case side1=>exact cb (Kd.C_below HR0_0.out HB.out));(case side2=>exact HC0_0.out);(case side3=>exact cb (Kd.C_below HR0_1.out HB.out));(case side4=>exact HC0_1.out);(case side5=>exact cb (Kd.C_below HR0_2.out HB.out));(case side6=>exact HC0_2.out);(case side7=>exact cb (Kd.C_below HR0_3.out HB.out));(case side8=>exact HC0_3.out);rintro e w11 ⟨rfl,hb⟩;refine ⟨_,rfl,?_⟩;have _:=qm (qv (g:=gb495) BK495.out hb);have _:=qm (qt HB.out hb);clear BK495 HB;rename_i BK495 HB)|((with_reducible refine gate_dst (N:=13) rfl ?_);(try (refine gate_guard (by rfl) ?_;dsimp only));refine Kd.R_lit (Kd.int .u8) _ 5 ?hg (N:=13) ?hd (xs:=([]:List Int)) (inner:=[]) (ok:=fun _=>True) (okp:=fun _=>True) ?hr ?hp (fun _ hk=>hk) trivial (Below.refl _ _) (Nat.le_refl _) (by simp) ?_;(case hd=>rfl);(case hg=>rfl);(case hr=>first|(go_simp;done)|(go_simp;rfl));(case hp=>exact (Reps.none _ _));intro v498 w12 ho13 hb hg_ hnew_;clear hg_ hnew_;(first|rw [←Ny497.out] at ho13|(simp only [Int.reduceToNat] at ho13;rw [←Ny497.out] at ho13));have _:=qm (Kd.R_lower ho13 (qs HB.out));have _:=qm (qv (g:=gb495) BK495.out hb);have _:=qm (qt HB.out hb);clear BK495 HB;rename_i HO499 BK495 HB;clear hb ho13;obtain ⟨_,_,_,_,_,_,_,_⟩:=fc4 BK495.out)|((with_reducible refine gate_callee (f:=51) rfl ?_);refine goesL_ (some 17) rfl rfl Try.func51 (by kernel_rfl) rfl #[.slice A0_3 l0_3.length c0_3, .slice A1 l1.length c1] rfl (by (try simp only [m1,m2,m3]);first|done|rfl) ?_;(with_reducible refine (impl_digest.calls k _ _ l0_3 _ _ l1 t500 _ ?side1 ?side2 ?side3 ?side4 A6.out).mono ?_);(case side1=>exact cb (Kd.C_below HR0_3.out HB.out));(case side2=>exact HC0_3.out);(case side3=>exact cb (Kd.C_below HR1.out HB.out));(case side4=>exact HC1.out);rintro e w15 ⟨v501,rfl,ho0,hb⟩;refine ⟨_,rfl,?_⟩;have _:=qm (Kd.R_elder' HO499.out (Kd.R_base ho0) hb);have _:=qm (Kd.R_lower (nw ho0 HO499.out) (qs HB.out));have _:=qm (qv (g:=gb495) BK495.out hb);have _:=qm (qt HB.out hb);clear HO499 BK495 HB;rename_i HO499 HO502 BK495 HB;obtain ⟨Ao17,co17,eo17⟩:=Kd.R_slice HO502.out;subst eo17;have q16:(5:Int)≤((t500.length:Int):Int):=of_decide_eq_true (by assumption);obtain ⟨i016,hi016,_,hsz16,_⟩:=info_parts info5;have hroom16:t500.length≤co17:=(qe HO502.out).2.1;have hC16:Kd.C (Kd.int .u8) _ Ao17 t500.length t500:=(qe HO502.out).2.2;have hcut16:=cut_to (P:=Try.prog) 22 5 .i64 Try.underlying22 hi016 Ao17 t500.length co17 5 (by omega) q16 hroom16;have hr16:=Kd.C_take (m:=5) hC16 (by omega);have hy16:y503.length=(5:Int).toNat:=(by rw [Ny503.out,List.length_take];omega);rw [←Ny503.out] at hr16;rw [←hy16] at hcut16;have HR506:=qm hr16;have HC506:=qm (show y503.length≤co17 from by omega);clear hr16 hC16 hroom16 hi016 hsz16;have KY16:=qm hy16;clear hy16;have KL16:=qm (show 5≤t500.length from by omega);replace q16:=eq_true q16)|((with_reducible refine gate_builtin (b:= .append) (xs:=#[.tmp 13, .tmp 18]) rfl ?_);(try (refine gate_guard (by rfl) ?_;dsimp only));at_builtin;refine Kd.R_append_rows (Kd.int .u8) (w0:=w) w.heap.size rfl (.tmp 13) (.tmp 18) 22 5 (.int .u8 0) 1 rfl Try.underlying22 info5 rfl (by decide) (by omega) v498 y497 y503 _ _ _ (fun k_=>ob k_ (.slice Ao17 t500.length co17)) (fun _=>False) rfl rfl ?aO ?aR (fun _ _ h=>h) (fun _ h=>h.elim) ?aF ?aB ?aS ?aL ?_;(case aR=>exact cb (by repeat (first|(with_reducible exact HR506.out)|(with_reducible refine Kd.C_alloc ?_ _)|(with_reducible refine Kd.C_drewN ?_ _)|(with_reducible refine Kd.C_drew ?_)|exact HR506.out)));(case aB=>exact HB.out);(case aF=>exact (fun k_ hk=>Kd.fresh' (Kd.R_lt HO502.out) k_ hk));(case aO=>exact (rb (qg HO499.out (fun _ hk=>hk.2))));(case aS=>exact (qs HB.out));(case aL=>have:=LMc8.out;omega);intro v508 w18 ho hb hg hat;rw [←Ny507.out] at ho;have _:=qm (blk_grown (g:=gb495) BK495.out hg (Kd.R_ne HO499.out BK495.out (by decide)));have _:=qm (Kd.R_after (ok:=(fun _=>True)) HO502.out hg hat);have _:=qm (hb);have _:=qm ((show Kd.C (Kd.int .u8) w18 Ao17 y503.length y503 from by rw [Ny503.out];exact Kd.C_take (m:=5) ((qe (Kd.R_after (ok:=(fun _=>True)) HO502.out hg hat)).2.2) KL16.out));have _:=qm (ho);clear BK495 HO502 HB HR506 HO499;rename_i BK495 HO502 HB HR506 HO509;clear ho hb hg hat))
     go_ret
     exact ⟨_,by first|rfl|(simp <;> rfl)|(simp [*] <;> rfl),by (with_reducible repeat (first|apply qb|apply qc|apply qd));exact qg HO509.out (fun _ hk=>trivial),HB.out⟩
    rw [if_neg c8] at H
    exact absurd H (by simp)
   rw [if_neg c7] at H
   exact absurd H (by simp)
  rw [if_neg c5] at H
  have c5b0:((l1.length:Int) == 8)=false:=beq_eq_false_iff_ne.mpr c5
  have c5b1:((l1.length:Int) != 8)=true:=bne_iff_ne.mpr c5
  obtain rfl:=Option.some.inj H
  go_enter Try.func27,Try.ntmps27
  go_wp2_with (first|((with_reducible refine gate_dst (N:=2) rfl ?_);(try (refine gate_guard (by rfl) ?_;dsimp only));refine box_event (by rfl) (N:=2) (by rfl) (cs:=#[.slice A0_0 l0_0.length c0_0, .slice A0_1 l0_1.length c0_1, .slice A0_2 l0_2.length c0_2, .slice A0_3 l0_3.length c0_3]) (t:=33) (by first|(go_simp;done)|(go_simp;rfl)) ?_;intro gb495 hg w19 hbox hb;have _:=qm (qt HB.out hb);have _:=qm (hbox);have _:=qm ((gs hg (qs HB.out)));have _:=qm ((gs hg (qs HB.out)));clear HB;rename_i HB BK495 GW495 GE495;clear hb hbox hg;obtain ⟨_,_,_,_,_,_,_,_⟩:=fc4 BK495.out)|((with_reducible refine gate_callee (f:=56) rfl ?_);refine goesL_ (some 6) rfl rfl Try.func56 (by kernel_rfl) rfl #[.agg #[.slice A0_0 l0_0.length c0_0, .slice A0_1 l0_1.length c0_1, .slice A0_2 l0_2.length c0_2, .slice A0_3 l0_3.length c0_3]] rfl (by (try simp only [m1,m2,m3]);first|done|rfl) ?_;(with_reducible refine (impl_keysOK.calls _ _ l0_0 _ _ l0_1 _ _ l0_2 _ _ l0_3 true _ ?side1 ?side2 ?side3 ?side4 ?side5 ?side6 ?side7 ?side8 A3.out).mono ?_);(case side1=>exact cb (Kd.C_below HR0_0.out HB.out));(case side2=>exact HC0_0.out);(case side3=>exact cb (Kd.C_below HR0_1.out HB.out));(case side4=>exact HC0_1.out);(case side5=>exact cb (Kd.C_below HR0_2.out HB.out));(case side6=>exact HC0_2.out);(case side7=>exact cb (Kd.C_below HR0_3.out HB.out));(case side8=>exact HC0_3.out);rintro e w21 ⟨rfl,hb⟩;refine ⟨_,rfl,?_⟩;have _:=qm (qv (g:=gb495) BK495.out hb);have _:=qm (qt HB.out hb);clear BK495 HB;rename_i BK495 HB))
  go_ret
  exact ⟨_,by first|rfl|(simp <;> rfl)|(simp [*] <;> rfl),by first|exact Kd.R_nil _ _ _ _ _|exact Kd.N_nil _ _ _ _ _|exact Kd.V_nil _ _ _ _ _|exact Kd.Q_nil _ _ _ _ _|exact Kd.S_nil _ _ _ _ _,HB.out⟩
 replace c4:=Bool.eq_false_iff.mpr c4
 subst c4
 rw [if_neg nt] at H
 obtain rfl:=Option.some.inj H
 go_enter Try.func27,Try.ntmps27
 go_wp2_with (first|((with_reducible refine gate_dst (N:=2) rfl ?_);(try (refine gate_guard (by rfl) ?_;dsimp only));refine box_event (by rfl) (N:=2) (by rfl) (cs:=#[.slice A0_0 l0_0.length c0_0, .slice A0_1 l0_1.length c0_1, .slice A0_2 l0_2.length c0_2, .slice A0_3 l0_3.length c0_3]) (t:=33) (by first|(go_simp;done)|(go_simp;rfl)) ?_;intro gb495 hg w22 hbox hb;have _:=qm (qt HB.out hb);have _:=qm (hbox);have _:=qm ((gs hg (qs HB.out)));have _:=qm ((gs hg (qs HB.out)));clear HB;rename_i HB BK495 GW495 GE495;clear hb hbox hg;obtain ⟨_,_,_,_,_,_,_,_⟩:=fc4 BK495.out)|((with_reducible refine gate_callee (f:=56) rfl ?_);refine goesL_ (some 6) rfl rfl Try.func56 (by kernel_rfl) rfl #[.agg #[.slice A0_0 l0_0.length c0_0, .slice A0_1 l0_1.length c0_1, .slice A0_2 l0_2.length c0_2, .slice A0_3 l0_3.length c0_3]] rfl (by (try simp only [m1,m2,m3]);first|done|rfl) ?_;(with_reducible refine (impl_keysOK.calls _ _ l0_0 _ _ l0_1 _ _ l0_2 _ _ l0_3 false _ ?side1 ?side2 ?side3 ?side4 ?side5 ?side6 ?side7 ?side8 A3.out).mono ?_);(case side1=>exact cb (Kd.C_below HR0_0.out HB.out));(case side2=>exact HC0_0.out);(case side3=>exact cb (Kd.C_below HR0_1.out HB.out));(case side4=>exact HC0_1.out);(case side5=>exact cb (Kd.C_below HR0_2.out HB.out));(case side6=>exact HC0_2.out);(case side7=>exact cb (Kd.C_below HR0_3.out HB.out));(case side8=>exact HC0_3.out);rintro e w24 ⟨rfl,hb⟩;refine ⟨_,rfl,?_⟩;have _:=qm (qv (g:=gb495) BK495.out hb);have _:=qm (qt HB.out hb);clear BK495 HB;rename_i BK495 HB))
 go_ret
 exact ⟨_,by first|rfl|(simp <;> rfl)|(simp [*] <;> rfl),by first|exact Kd.R_nil _ _ _ _ _|exact Kd.N_nil _ _ _ _ _|exact Kd.V_nil _ _ _ _ _|exact Kd.Q_nil _ _ _ _ _|exact Kd.S_nil _ _ _ _ _,HB.out⟩
def impl_inVar.f (a0:Int):Option (Bool):=if a0≥0 then (some (decide (a0≤4611686018427387903))) else (some false)
set_option maxHeartbeats 8000000 in
set_option maxRecDepth 100000 in
theorem impl_inVar.calls (a0:Int) (r:Bool) (w:World) (h:impl_inVar.f a0=some r) :
  Calls Try.prog 67 #[.int .i64 a0] w fun e w' =>e = .returned (.bool r)∧Drawn0 w w' :=by
 have H:(if a0≥0 then (some (decide (a0≤4611686018427387903))) else (some false))=some r:=h
 clear h
 by_cases c2:a0≥0
 ·rw [if_pos c2] at H
  have c2b0:decide (0≤a0)=true:=decide_eq_true c2
  clear c2
  obtain rfl:=Option.some.inj H
  go_enter Try.func67,Try.ntmps67
  go_wp2
  go_ret
  exact ⟨by first|rfl|(simp;done)|(simp [*];done),by repeat (first|exact Drawn0.refl _|apply Drawn0.step)⟩
 rw [if_neg c2] at H
 have c2b0:decide (0≤a0)=false:=decide_eq_false c2
 clear c2
 obtain rfl:=Option.some.inj H
 go_enter Try.func67,Try.ntmps67
 go_wp2
 go_ret
 exact ⟨by first|rfl|(simp;done)|(simp [*];done),by repeat (first|exact Drawn0.refl _|apply Drawn0.step)⟩
def impl_nonceOf.l0:Nat→List Int→Int→Int→List Int→List Int→List Int→List Int→Option (List Int)
 |0,_,_,_,_,_,_,_=>none
 |k+1,x5,x10,x11,x511000,x511001,x511002,x511003=>if x11<x10 then (if 0≤x11 then (if x11<(x5.length:Int) then (if x11<(x511002.length:Int) then (impl_nonceOf.l0 k (x5.set (x11:Int).toNat (Go.bits .xor .u8 (rd x5 x11) (rd x511002 x11))) x10 (wrap64 (x11+1)) x511000 x511001 x511002 x511003) else (none)) else (none)) else (none)) else (some x5)
def impl_nonceOf.f (k:Nat) (l0_0:List Int) (l0_1:List Int) (l0_2:List Int) (l0_3:List Int) (a1:Int):Option (List Int):=(impl_fixed.f k ([]:List Int) a1 8).bind fun t511=>(impl_nonceOf.l0 k t511 (t511.length:Int) 0 l0_0 l0_1 l0_2 l0_3)
def impl_nonceOf.T5:Bool×List (List Nat×List Nat):=(true,[([],[]),([],[]),([0,1],[0,1]),([2],[2]),([],[]),([4],[4]),([],[]),([5,6],[5,6]),([7],[7]),([3,8],[3,8]),([0,1,0,1,2,3,4,5,6,7,8,9],[0,1]),([10,9,0,1,2,3,4,5,6,7,8,9],[9,10])])
def impl_nonceOf.B5:List Nat:=[0,0,3,7,0,16,0,112,240,511,1023,2047]
theorem impl_nonceOf.tab5:rtab .any (opsOf Try.f68 5)=impl_nonceOf.T5:=by kernel_rfl
theorem impl_nonceOf.bits5:waitsOk impl_nonceOf.T5.2 impl_nonceOf.B5=true:=by kernel_rfl
set_option maxHeartbeats 8000000 in
set_option maxRecDepth 100000 in
theorem impl_nonceOf.calls (k:Nat) (A0_0:Option Addr) (c0_0:Nat) (l0_0:List Int) (A0_1:Option Addr) (c0_1:Nat) (l0_1:List Int) (A0_2:Option Addr) (c0_2:Nat) (l0_2:List Int) (A0_3:Option Addr) (c0_3:Nat) (l0_3:List Int) (a1:Int) (r:List Int) (w:World) (hr0_0:Kd.C (Kd.int .u8) w A0_0 l0_0.length l0_0) (hc0_0:l0_0.length≤c0_0) (hr0_1:Kd.C (Kd.int .u8) w A0_1 l0_1.length l0_1) (hc0_1:l0_1.length≤c0_1) (hr0_2:Kd.C (Kd.int .u8) w A0_2 l0_2.length l0_2) (hc0_2:l0_2.length≤c0_2) (hr0_3:Kd.C (Kd.int .u8) w A0_3 l0_3.length l0_3) (hc0_3:l0_3.length≤c0_3) (h:impl_nonceOf.f k l0_0 l0_1 l0_2 l0_3 a1=some r) :
  Calls Try.prog 68 #[.agg #[.slice A0_0 l0_0.length c0_0, .slice A0_1 l0_1.length c0_1, .slice A0_2 l0_2.length c0_2, .slice A0_3 l0_3.length c0_3], .int .i64 a1] w fun e w' =>∃ v0_:Value,e = .returned (v0_)∧Kd.R (Kd.int .u8) 5 w' w.heap.size (fun _=>True) v0_ r∧Below w.heap.size w w' :=by
 have hu33:=Try.underlying33
 have HR0_0:=qm hr0_0
 have HC0_0:=qm hc0_0
 clear hr0_0 hc0_0
 have HR0_1:=qm hr0_1
 have HC0_1:=qm hc0_1
 clear hr0_1 hc0_1
 have HR0_2:=qm hr0_2
 have HC0_2:=qm hc0_2
 clear hr0_2 hc0_2
 have HR0_3:=qm hr0_3
 have HC0_3:=qm hc0_3
 clear hr0_3 hc0_3
 have HB:=qm (Below.refl w.heap.size w)
 have H:((impl_fixed.f k ([]:List Int) a1 8).bind fun t511=>(impl_nonceOf.l0 k t511 (t511.length:Int) 0 l0_0 l0_1 l0_2 l0_3))=some r:=h
 clear h
 replace H:=Option.bind_eq_some_iff.mp H
 obtain ⟨t511,A30,H⟩:=H
 try dsimp only at H
 have A3:=qm A30
 clear A30
 have H' :=qm H
 clear H
 go_enter Try.func68,Try.ntmps68
 go_wp2_with (first|((with_reducible refine gate_dst (N:=2) rfl ?_);refine box_event (by rfl) (N:=2) (by rfl) (cs:=#[.slice A0_0 l0_0.length c0_0, .slice A0_1 l0_1.length c0_1, .slice A0_2 l0_2.length c0_2, .slice A0_3 l0_3.length c0_3]) (t:=33) (by first|(go_simp;done)|(go_simp;rfl)) ?_;intro gb510 hg w4 hbox hb;have _:=qm (qt HB.out hb);have _:=qm (hbox);have _:=qm ((gs hg (qs HB.out)));have _:=qm ((gs hg (qs HB.out)));clear HB;rename_i HB BK510 GW510 GE510;clear hb hbox hg)|((with_reducible refine gate_callee (f:=80) rfl ?_);refine goesL_ (some 8) rfl rfl Try.func80 (by kernel_rfl) rfl #[.slice none 0 0, .int .i64 a1, .int .i64 8] rfl (by (try simp only [m1,m2,m3]);first|done|rfl) ?_;(refine (impl_fixed.calls k (fun k_=>some k_=(.slice none 0 0:Value).ownBlock) (.slice none 0 0) ([]:List Int) a1 8 t511 w _ ?side1 ?side2 A3.out).mono ?_);(case side1=>repeat (first|(with_reducible first|exact HB.out|apply qh|apply qi|apply qj|refine qk ?_ GE510.out)|exact HB.out));(case side2=>exact Kd.R_nil _ _ _ _ _);rintro e w5 ⟨v512,rfl,ho0,hb,hkp⟩;refine ⟨_,rfl,?_⟩;have _:=qm (blk_kept BK510.out hkp (fun hs_=>(fun e_=>by simp [Value.ownBlock] at e_) hs_));have _:=qm (qg (ok' :=fun k_=>True) ho0 (fun k_ hk_=>trivial));have _:=qm (hb);clear BK510 HB;rename_i BK510 HO513 HB;obtain ⟨Ao6,co6,eo6⟩:=Kd.R_slice HO513.out;subst eo6))
 go_loopg [11] k (fun kq v11 w' =>∃ (x5_1:List Int) (x11_1:Int),v11 = .int .i64 x11_1∧Aside0 (impl_nonceOf.l0 kq x5_1 (t511.length:Int) x11_1 l0_0 l0_1 l0_2 l0_3=some r)∧Aside0 (kq≤k)∧Aside0 (Kd.R (Kd.int .u8) 5 w' w.heap.size (fun _=>True) (.slice Ao6 t511.length co6) x5_1)∧Aside0 (w'.heap[gb510]? =some (.cells #[(.slice A0_0 l0_0.length c0_0),(.slice A0_1 l0_1.length c0_1),(.slice A0_2 l0_2.length c0_2),(.slice A0_3 l0_3.length c0_3)] 33 (0,0)))∧Aside0 (Below w.heap.size w w'))
 case atStart=>exact ⟨(t511),(0),(by first|rfl|(simp;done)|(simp [*];done)),H',⟨Nat.le_refl _⟩,⟨HO513.out⟩,⟨BK510.out⟩,⟨HB.out⟩⟩
 case round=>
  clear H'
  obtain ⟨x5_1,x11_1,rfl,HA,HK1,HO_5,BK510,HB⟩:=hrel
  have hl5_1:=(qe HO_5.out).1
  rw [hl5_1] at HO_5
  (try simp only [hl5_1])
  (try simp only [hl5_1] at BK510)
  cases gk with
  |zero=>exact absurd HA.out (by simp [impl_nonceOf.l0])
  |succ k1=>?_
  have H:=HA.out
  clear HA
  simp only [impl_nonceOf.l0] at H
  by_cases c7:x11_1<(t511.length:Int)
  ·rw [if_pos c7] at H
   have c7b0:decide (x11_1<(t511.length:Int))=true:=decide_eq_true c7
   clear c7
   by_cases c8:0≤x11_1
   ·rw [if_pos c8] at H
    have c8b0:decide (0≤x11_1)=true:=decide_eq_true c8
    clear c8
    by_cases c9:x11_1<(x5_1.length:Int)
    ·rw [if_pos c9] at H
     have c9b0:decide (x11_1<(x5_1.length:Int))=true:=decide_eq_true c9
     clear c9
     by_cases c10:x11_1<(l0_2.length:Int)
     ·rw [if_pos c10] at H
      have c10b0:decide (x11_1<(l0_2.length:Int))=true:=decide_eq_true c10
      clear c10
      obtain ⟨y516,hy516⟩:∃ y_:List Int,y_=(x5_1.set (x11_1:Int).toNat (Go.bits .xor .u8 (rd x5_1 x11_1) (rd l0_2 x11_1))):=⟨_,rfl⟩
      replace H:(impl_nonceOf.l0 k1 y516 (t511.length:Int) (wrap64 (x11_1+1)) l0_0 l0_1 l0_2 l0_3)=some r:=by first|(rw [hy516];with_reducible exact H)|(have H2_:=(Option.bind_some _ _).symm.trans H;rw [hy516];with_reducible exact H2_)|(have H2_:=(Option.bind_some _ _).symm.trans H;with_reducible exact H2_)|with_reducible exact H|(rw [hy516];exact H)|exact H
      have Ny516:=qm hy516
      clear hy516
      have H' :=qm H
      clear H
      try go_wp2
      have _:=qm (qd HO_5.out)
      have _:=qm (blk_drew BK510.out)
      have _:=qm (qj HB.out)
      clear HO_5 BK510 HB
      rename_i HO_5 BK510 HB
      have p514:0≤(x11_1:Int):=of_decide_eq_true (by assumption)
      have q514:x11_1<(x5_1.length:Int):=of_decide_eq_true (by assumption)
      obtain ⟨ad514,e514,hx514_0⟩:=Kd.at_int (qe HO_5.out).2.2 x11_1 p514 q514
      cases e514
      replace p514:=eq_true p514
      replace q514:=eq_true q514
      have p515:0≤(x11_1:Int):=of_decide_eq_true (by assumption)
      have q515:x11_1<(l0_2.length:Int):=of_decide_eq_true (by assumption)
      obtain ⟨ad515,e515,hx515_0⟩:=Kd.at_int HR0_2.out x11_1 p515 q515
      have hw515_0:=hx515_0
      cases e515
      replace hx515_0:=(HB.out.cell (World.block_lt_of_cell? w _ hx515_0)).trans hx515_0
      replace p515:=eq_true p515
      replace q515:=eq_true q515
      have p11:0≤(x11_1:Int):=of_decide_eq_true (by assumption)
      have q11:(x11_1:Int)<((x5_1.length:Int):Int):=of_decide_eq_true (by assumption)
      obtain ⟨go11,co11,eo11,gb11,gl11,cl11,HG11⟩:=Kd.R_form HO_5.out (by omega)
      (first|cases eo11|(injection eo11 with ea_ en_ ec_;(first|subst ea_|(injection ea_ with ea_;subst ea_));subst ec_;clear en_))
      have GB11:=qm gb11
      have GG11:=qm HG11
      clear gb11 gl11 HG11
      (first|simp only [add_plain] at hx514_0|skip)
      obtain ⟨hx11_0,hf11_0⟩:=Kd.R_celln 0 HO_5.out (x11_1:Int) p11 q11
      replace p11:=eq_true p11
      replace q11:=eq_true q11
      have HP13:=Kd.R_putn HO_5.out (x11_1:Int) (Go.bits .xor .u8 (rd x5_1 x11_1) (rd l0_2 x11_1))
      rw [←Ny516.out] at HP13
      have HQ13:=qm HP13
      clear HP13
      refine start_ (n:=12) (S:=fun w' =>w'.cell? ⟨gb510,0,none⟩=some (.slice A0_0 l0_0.length c0_0)∧w'.cell? ⟨gb510,1,none⟩=some (.slice A0_1 l0_1.length c0_1)∧w'.cell? ⟨gb510,2,none⟩=some (.slice (some ad515) l0_2.length c0_2)∧w'.cell? ⟨gb510,3,none⟩=some (.slice A0_3 l0_3.length c0_3)∧w'.cell? ⟨go11,(x11_1).toNat,none⟩=some (.int .u8 (rd x5_1 x11_1))∧w'.cell? (ad515.add (x11_1).toNat)=some (.int .u8 (rd l0_2 x11_1))) (ds:=[11]) (bm 0 12) (by kernel_rfl) rfl rfl ⟨(qu BK510.out 0).trans rfl,(qu BK510.out 1).trans rfl,(qu BK510.out 2).trans rfl,(qu BK510.out 3).trans rfl,hx514_0,((HB.out.cell (World.block_lt_of_cell? w _ hw515_0)).trans hw515_0)⟩ (fun hHeld=>?_);refine with_tabW impl_nonceOf.tab5 impl_nonceOf.bits5 (fun HT_ HW_=>?_)
      generalize wr.drew=w12 at HO_5 BK510 HB GG11 HQ13 hf11_0 hx11_0 hx514_0 hx515_0 hHeld ⊢
      refine pu 0 14 (bm 1 12) HT_ (h:=⟨_,by intro w';go_simp;with_reducible rfl,_,by simp only [Act.put,s1,s2,s3,i64_w,i32_w];rfl,?_⟩)
      refine pu 1 15 (bm 2 12) HT_ (h:=⟨_,by intro w';go_simp;with_reducible rfl,_,by simp only [Act.put,s1,s2,s3,i64_w,i32_w];rfl,?_⟩)
      refine pu 2 16 (bm 3 12) HT_ (h:=⟨_,by intro w';go_simp;with_reducible rfl,_,by simp only [Act.put,s1,s2,s3,i64_w,i32_w];rfl,?_⟩)
      refine pu 4 18 (bb 23 12) HT_ (h:=⟨_,by intro w';go_simp;with_reducible rfl,_,by simp only [Act.put,s1,s2,s3,i64_w,i32_w];rfl,?_⟩)
      refine pu 6 20 (bb 87 12) HT_ (h:=⟨_,by intro w';go_simp;with_reducible rfl,_,by simp only [Act.put,s1,s2,s3,i64_w,i32_w];rfl,?_⟩)
      refine tk 3 17 (bb 95 12) HT_ HW_ (hS:=hHeld) (h:=⟨_,by rintro w' ⟨s0,s1,s2,s3,s4,s5⟩;go_simp;with_reducible rfl,_,by simp only [Act.put,s1,s2,s3,i64_w,i32_w];rfl,?_⟩)
      refine tk 5 19 (bm 7 12) HT_ HW_ (hS:=hHeld) (h:=⟨_,by rintro w' ⟨s0,s1,s2,s3,s4,s5⟩;go_simp;with_reducible rfl,_,by simp only [Act.put,s1,s2,s3,i64_w,i32_w];rfl,?_⟩)
      refine pu 7 21 (bm 8 12) HT_ (h:=⟨_,by intro w';go_simp;with_reducible rfl,_,by simp only [Act.put,s1,s2,s3,i64_w,i32_w];rfl,?_⟩)
      refine tk 8 22 (bm 9 12) HT_ HW_ (hS:=hHeld) (h:=⟨_,by rintro w' ⟨s0,s1,s2,s3,s4,s5⟩;go_simp;with_reducible rfl,_,by simp only [Act.put,s1,s2,s3,i64_w,i32_w];rfl,?_⟩)
      refine pu 9 23 (bm 10 12) HT_ (h:=⟨_,by intro w';go_simp;with_reducible rfl,_,by simp only [Act.put,s1,s2,s3,i64_w,i32_w];rfl,?_⟩)
      refine pu 10 24 (bm 11 12) HT_ (h:=⟨_,by intro w';go_simp;with_reducible rfl,_,by simp only [Act.put,s1,s2,s3,i64_w,i32_w];rfl,?_⟩)
      refine last_ (i:=11) (N:=none) (bm 12 12) rfl rfl (one_of HT_.out (by kernel_rfl)) (by decide) (fun K hK=>?_)
      refine skip_ (w1:=?_) (by rfl) rfl ?_ ?_
      rotate_left
      ·go_simp
       rfl
      refine hK.out _ _ ?_
      clear hK K
      refine done_ (done_of HT_.out (by kernel_rfl)) ?_
      try go_wp2
      (try simp only [←hl5_1])
      go_roundg k1
      case measure=>have:=HK1.out;omega
      case rel=>exact ⟨(y516),(wrap64 (x11_1+1)),(by first|rfl|(simp;done)|(simp [*];done)),H',⟨by have:=HK1.out;omega⟩,⟨by (try simp only [hl5_1]);(with_reducible repeat (first|apply qb|apply qc|apply qd));exact HQ13.out⟩,⟨by (try simp only [hl5_1]);(with_reducible repeat (first|refine blk_drewN ?_ _|refine blk_drew ?_|refine blk_alloc ?_ _));refine blk_far ?_ (by have h_:=Kd.R_ne HO_5.out BK510.out (by decide);intro e_;exact h_ (by rw [e_];rfl)) _;(with_reducible repeat (first|refine blk_drewN ?_ _|refine blk_drew ?_|refine blk_alloc ?_ _));exact BK510.out⟩,⟨by repeat (first|(with_reducible first|exact HB.out|apply qh|apply qi|apply qj|refine qk ?_ GB11.out|refine qk ?_ GE510.out)|exact HB.out)⟩⟩
     rw [if_neg c10] at H
     exact absurd H (by simp)
    rw [if_neg c9] at H
    exact absurd H (by simp)
   rw [if_neg c8] at H
   exact absurd H (by simp)
  rw [if_neg c7] at H
  have c7b0:decide (x11_1<(t511.length:Int))=false:=decide_eq_false c7
  have c7b9:decide (x11_1<(x5_1.length:Int))=false:=by first|(rw [←hl5_1];exact c7b0)|exact c7b0
  clear c7
  obtain rfl:=Option.some.inj H
  go_wp2
  go_ret
  exact ⟨_,by first|rfl|(simp <;> rfl)|(simp [*] <;> rfl),HO_5.out,HB.out⟩
end Go.Proofs.Ytcdkbdkanjifeaa.SFnExactProtectPacket
