/- For all keys, headers and bodies: the program's ProtectPacket and the reference's tell the same bytes and code, in memory of its own. No condition. -/
import Derived.Test.YtcdkbdkanjifeaaSFnExactProtectPacketx19
import Derived.Test.YtcdkbdkanjifeaaBMath
namespace Go.Proofs.Ytcdkbdkanjifeaa.Pure
open Go.RowKit Go.Proofs.Ytcdkbdkanjifeaa.SFnExactProtectPacket Go.Proofs.YtcdkbdkanjifeaaW.PrintWords Go.Proofs.YtcdkbdkanjifeaaW.PrintLast Go.Proofs.YtcdkbdkanjifeaaW.PrintMore Go.Proofs.Ytcdkbdkanjifeaa.Math
set_option linter.unusedVariables false
set_option linter.unusedSimpArgs false
theorem toByteS_loop (l:List Int) (hl:l.length≤281474976710656) (n:Nat):∀ (x:List Int) (i:Nat),l.length - i=n→i≤l.length→x.length=l.length→(∀ j,j<i→x[j]? =l[j]?)→Ev (fun k=>laws_toByteS.l0 k l x (i:Int)) l:=by
  induction n with
  |zero=>
    intro x i hn hi hx h
    refine Ev.step (fun k=>rfl) ?_
    simp only [laws_toByteS.l0,show ¬ ((i:Int)<(l.length:Int)) by omega,if_false]
    exact Ev_now (prefix_all hx (fun j hj=>h j (by omega)))
  |succ n ih=>
    intro x i hn hi hx h
    have hil:i<l.length:=by omega
    have H:=ih (x.set i (rd l (i:Int))) (i+1) (by omega) (by omega) (by rw [List.length_set];exact hx) (set_prefix hx (rd_get l hil) h)
    refine Ev.step (fun k=>rfl) ?_
    simp only [laws_toByteS.l0,show ((i:Int)<(l.length:Int)) by omega,show (0:Int)≤(i:Int) by omega,show ((i:Int)<(x.length:Int)) by omega,if_true,Int.toNat_natCast,next64 (show i<4611686018427387904 by omega)]
    exact H
theorem toByteS_ev (l:List Int) (hl:l.length≤281474976710656):Ev (fun k=>laws_toByteS.f k l) l:=by
  simp only [laws_toByteS.f,show (0:Int)≤(l.length:Int) by omega,if_true,Int.toNat_natCast,hl]
  exact toByteS_loop l hl l.length _ 0 (by omega) (by omega) (by simp) (fun j hj=>by omega)
theorem eqByteS_loop (l:List Int) (hl:l.length≤281474976710656) (n:Nat):∀ (i:Nat),l.length - i=n→i≤l.length→Ev (fun k=>laws_eqByteS.l0 k l l (i:Int)) true:=by
  induction n with
  |zero=>
    intro i hn hi
    refine Ev.step (fun k=>rfl) ?_
    simp only [laws_eqByteS.l0,show ¬ ((i:Int)<(l.length:Int)) by omega,if_false]
    exact Ev.now _
  |succ n ih=>
    intro i hn hi
    have H:=ih (i+1) (by omega) (by omega)
    refine Ev.step (fun k=>rfl) ?_
    simp only [laws_eqByteS.l0,show ((i:Int)<(l.length:Int)) by omega,show (0:Int)≤(i:Int) by omega,if_true,next64 (show i<4611686018427387904 by omega)]
    exact H
theorem eqByteS_ev (l:List Int) (hl:l.length≤281474976710656):Ev (fun k=>laws_eqByteS.f k l l) true:=by
  simp only [laws_eqByteS.f,if_true]
  exact eqByteS_loop l hl l.length 0 (by omega) (by omega)
theorem markByteS_loop (m:Int) (N:Nat) (hm:0≤m) (hN:m+N≤4611686018427387903) (n:Nat):∀ (x:List Int) (i:Nat),N - i=n→i≤N→x.length=N→(∀ j,j<i→x[j]? =(marks m N)[j]?)→Ev (fun k=>laws_markByteS.l0 k x (m+i) (i:Int)) (m+N,marks m N):=by
  induction n with
  |zero=>
    intro x i hn hi hx h
    obtain rfl:i=N:=by omega
    refine Ev.step (fun k=>rfl) ?_
    simp only [laws_markByteS.l0,show ¬ ((i:Int)<(x.length:Int)) by omega,if_false]
    exact Ev_now (by rw [prefix_all (l:=marks m i) (by rw [marks_length,hx]) (fun j hj=>h j (by rw [marks_length] at hj;exact hj))])
  |succ n ih=>
    intro x i hn hi hx h
    have H:=ih (x.set i ((m+i)%256)) (i+1) (by omega) (by omega) (by rw [List.length_set];exact hx) (set_prefix (by rw [marks_length,hx]) (marks_get m (by omega)) h)
    rw [show m+((i+1:Nat):Int)=m+i+1 by omega] at H
    refine Ev.step (fun k=>rfl) ?_
    simp only [laws_markByteS.l0,show ((i:Int)<(x.length:Int)) by omega,show (0:Int)≤(i:Int) by omega,if_true,Int.toNat_natCast,next64 (show i<4611686018427387904 by omega),w64 (x:=m+i+1) (by omega) (by omega)]
    exact H
theorem markByteS_ev (x:List Int) (m:Int) (hm:0≤m) (hN:m+x.length≤4611686018427387903):Ev (fun k=>laws_markByteS.f k x m) (m+x.length,marks m x.length):=by
  have H:=markByteS_loop m x.length hm hN x.length x 0 (by omega) (by omega) rfl (fun j hj=>by omega)
  rw [show m+((0:Nat):Int)=m by omega] at H
  simp only [laws_markByteS.f]
  exact H
theorem heldByteS_loop (m:Int) (N:Nat) (hm:0≤m) (hN:m+N≤4611686018427387903) (n:Nat):∀ (i:Nat),N - i=n→i≤N→Ev (fun k=>laws_heldByteS.l0 k (marks m N) (m+i) (i:Int)) (m+N):=by
  induction n with
  |zero=>
    intro i hn hi
    obtain rfl:i=N:=by omega
    refine Ev.step (fun k=>rfl) ?_
    simp only [laws_heldByteS.l0,marks_length,show ¬ ((i:Int)<(i:Int)) by omega,if_false]
    exact Ev.now _
  |succ n ih=>
    intro i hn hi
    have H:=ih (i+1) (by omega) (by omega)
    rw [show m+((i+1:Nat):Int)=m+i+1 by omega] at H
    refine Ev.step (fun k=>rfl) ?_
    simp only [laws_heldByteS.l0,marks_length,show ((i:Int)<(N:Int)) by omega,show (0:Int)≤(i:Int) by omega,rd_some (marks_get m (show i<N by omega)),if_true,next64 (show i<4611686018427387904 by omega),w64 (x:=m+i+1) (by omega) (by omega)]
    exact H
theorem heldByteS_ev (n:Nat) (m:Int) (hm:0≤m) (hN:m+n≤4611686018427387903):Ev (fun k=>laws_heldByteS.f k (marks m n) m) (m+n):=by
  have H:=heldByteS_loop m n hm hN n 0 (by omega) (by omega)
  rw [show m+((0:Nat):Int)=m by omega] at H
  simp only [laws_heldByteS.f]
  exact H
theorem digits_ev (n:Nat):∀ v:Int,n≤64→0≤v→v≤9223372036854775807→Ev (fun k=>spec_l01Digits.f k v (n:Int)) (dg v n):=by
  induction n with
  |zero=>
    intro v hn h0 h1
    refine Ev.step (fun k=>rfl) ?_
    simp only [spec_l01Digits.f,show ((0:Nat):Int)=0 from rfl,if_true]
    exact Ev.now _
  |succ n ih=>
    intro v hn h0 h1
    have H:=ih (v / 256) (by omega) (by omega) (by omega)
    refine Ev.step (fun k=>rfl) ?_
    simp only [spec_l01Digits.f,show ¬ (((n+1:Nat):Int)=0) by omega,if_false,tdiv_nn h0,tmod_nn h0,w64 (x:=v / 256) (by omega) (by omega),show ((n+1:Nat):Int) - 1=(n:Int) by omega,w64 (x:=(n:Int)) (by omega) (by omega)]
    refine Ev.bind H ?_
    simp only [dg_length,show n<140737488355328 by omega,if_true]
    exact Ev_now (by rw [dg_snoc v h0 n,Int.emod_emod])
theorem shr_digit (v:Int) (m:Nat) (hm:m≤7) (h0:0≤v) (h1:v≤9223372036854775807):(shr .u64 (IntKind.u64.wrap v) (wrap64 (8*(m:Int))))%256=v / 256 ^ m%256:=by
  have hp:(2:Int) ^ (8*m)=256 ^ m:=by rw [Int.pow_mul];rfl
  have e:min (8*(m:Int)).toNat IntKind.u64.bits=8*m:=by simp only [IntKind.bits];omega
  unfold shr
  rw [wraps_u64 v h0 (by omega),w64 (by omega) (by omega),e,hp]
theorem fixed_loop (v:Int) (h0:0≤v) (h1:v≤9223372036854775807) (m:Nat):∀ l:List Int,m≤8→l.length+m<140737488355328→Ev (fun k=>impl_fixed.l0 k l v ((m:Int) - 1)) (l ++ dg v m):=by
  induction m with
  |zero=>
    intro l hm hl
    refine Ev.step (fun k=>rfl) ?_
    simp only [impl_fixed.l0,show ¬ (((0:Nat):Int) - 1≥0) by omega,if_false]
    exact Ev_now (by simp [dg])
  |succ m ih=>
    intro l hm hl
    have e:=shr_digit v m (by omega) h0 h1
    refine Ev.step (fun k=>rfl) ?_
    simp only [impl_fixed.l0,show ((m+1:Nat):Int) - 1=(m:Int) by omega,show (m:Int)≥0 by omega,show (0:Int)≤wrap64 (8*(m:Int)) by rw [w64 (by omega) (by omega)];omega,if_true,show l.length<140737488355328 by omega,e,w64 (x:=(m:Int) - 1) (by omega) (by omega)]
    exact Ev_cast (ih (l ++ [v / 256 ^ m%256]) (by omega) (by simp;omega)) (by simp [dg])
theorem fixed_ev (v:Int) (n:Nat) (l:List Int) (h0:0≤v) (h1:v≤9223372036854775807) (hn:n≤8) (hl:l.length+8<140737488355328):Ev (fun k=>impl_fixed.f k l v (n:Int)) (l ++ dg v n):=by
  simp only [impl_fixed.f,w64 (x:=(n:Int) - 1) (by omega) (by omega)]
  exact fixed_loop v h0 h1 n l hn (by omega)
theorem u32_wrap (n:Int):IntKind.u32.wrap n=n%4294967296:=by simp [IntKind.wrap,IntKind.bits,IntKind.signed]
theorem u32_or (a b:Int):0≤Go.bits .or .u32 a b∧Go.bits .or .u32 a b<4294967296:=by
  rw [show Go.bits .or .u32 a b=IntKind.u32.wrap _ from rfl,u32_wrap]
  omega
theorem u32_xor (a b:Int):0≤Go.bits .xor .u32 a b∧Go.bits .xor .u32 a b<4294967296:=by
  rw [show Go.bits .xor .u32 a b=IntKind.u32.wrap _ from rfl,u32_wrap]
  omega
def rot (x k j:Int):Int:=Go.bits .or .u32 (shl .u32 x k) (shr .u32 x j)
theorem sRot7 (x:Int):spec_l03Rot.f x 7=some (rot x 7 25):=by
  simp only [spec_l03Rot.f,show IntKind.u64.wrap 7=7 by decide +kernel,show IntKind.u64.wrap (wrap64 (32 - 7))=25 by decide +kernel,show (0:Int)≤7 by decide,show (0:Int)≤25 by decide,if_true]
  rfl
theorem sRot13 (x:Int):spec_l03Rot.f x 13=some (rot x 13 19):=by
  simp only [spec_l03Rot.f,show IntKind.u64.wrap 13=13 by decide +kernel,show IntKind.u64.wrap (wrap64 (32 - 13))=19 by decide +kernel,show (0:Int)≤13 by decide,show (0:Int)≤19 by decide,if_true]
  rfl
theorem sRot17 (x:Int):spec_l03Rot.f x 17=some (rot x 17 15):=by
  simp only [spec_l03Rot.f,show IntKind.u64.wrap 17=17 by decide +kernel,show IntKind.u64.wrap (wrap64 (32 - 17))=15 by decide +kernel,show (0:Int)≤17 by decide,show (0:Int)≤15 by decide,if_true]
  rfl
theorem iRot7 (x:Int):bits_RotateLeft32.f x 7=some (rot x 7 25):=by
  simp only [bits_RotateLeft32.f,show Go.bits .and .u64 (IntKind.u64.wrap 7) 31=7 by decide +kernel,show IntKind.u64.wrap (32 - 7)=25 by decide +kernel,show (0:Int)≤7 by decide,show (0:Int)≤25 by decide,if_true]
  rfl
theorem iRot13 (x:Int):bits_RotateLeft32.f x 13=some (rot x 13 19):=by
  simp only [bits_RotateLeft32.f,show Go.bits .and .u64 (IntKind.u64.wrap 13) 31=13 by decide +kernel,show IntKind.u64.wrap (32 - 13)=19 by decide +kernel,show (0:Int)≤13 by decide,show (0:Int)≤19 by decide,if_true]
  rfl
theorem iRot17 (x:Int):bits_RotateLeft32.f x 17=some (rot x 17 15):=by
  simp only [bits_RotateLeft32.f,show Go.bits .and .u64 (IntKind.u64.wrap 17) 31=17 by decide +kernel,show IntKind.u64.wrap (32 - 17)=15 by decide +kernel,show (0:Int)≤17 by decide,show (0:Int)≤15 by decide,if_true]
  rfl
def st1 (s:Int×Int×Int×Int) (v:Int):Int:=((Go.bits .xor .u32 s.1 (v%4294967296))*16777619)%4294967296
def st2 (s:Int×Int×Int×Int) (v:Int):Int:=rot ((s.2.1+st1 s v)%4294967296) 7 25
def st3 (s:Int×Int×Int×Int) (v:Int):Int:=rot (Go.bits .xor .u32 s.2.2.1 (st2 s v)) 13 19
def st4 (s:Int×Int×Int×Int) (v:Int):Int:=rot ((s.2.2.2+st3 s v)%4294967296) 17 15
def stp (s:Int×Int×Int×Int) (v:Int):Int×Int×Int×Int:=(Go.bits .xor .u32 (st1 s v) (st4 s v),st2 s v,st3 s v,st4 s v)
def B4 (s:Int×Int×Int×Int):Prop:=(0≤s.1∧s.1<4294967296)∧(0≤s.2.1∧s.2.1<4294967296)∧(0≤s.2.2.1∧s.2.2.1<4294967296)∧(0≤s.2.2.2∧s.2.2.2<4294967296)
theorem B4_stp (s:Int×Int×Int×Int) (v:Int):B4 (stp s v):=by
  have h2:0≤st2 s v∧st2 s v<4294967296:=by unfold st2 rot;exact u32_or _ _
  have h3:0≤st3 s v∧st3 s v<4294967296:=by unfold st3 rot;exact u32_or _ _
  have h4:0≤st4 s v∧st4 s v<4294967296:=by unfold st4 rot;exact u32_or _ _
  exact ⟨u32_xor _ _,h2,h3,h4⟩
theorem B4_fold (l:List Int):∀ s,B4 s→B4 (l.foldl stp s):=by
  induction l with
  |nil=>intro s h;exact h
  |cons v l ih=>intro s _;exact ih _ (B4_stp s v)
theorem drop_rd (l:List Int) (i:Nat) (h:i<l.length):l.drop i=rd l (i:Int) :: l.drop (i+1):=by
  rw [List.drop_eq_getElem_cons h,rd_some (List.getElem?_eq_getElem h)]
theorem sStir_loop (l:List Int) (hl:l.length≤281474976710656) (n:Nat):∀ (i:Nat) (s:Int×Int×Int×Int),l.length - i=n→i≤l.length→Ev (fun k=>spec_l03Stir.l0 k l (i:Int) s.1 s.2.1 s.2.2.1 s.2.2.2) ((l.drop i).foldl stp s):=by
  induction n with
  |zero=>
    intro i s hn hi
    refine Ev.step (fun k=>rfl) ?_
    simp only [spec_l03Stir.l0,show ¬ ((i:Int)<(l.length:Int)) by omega,if_false]
    rw [List.drop_eq_nil_of_le (by omega)]
    exact Ev.now _
  |succ n ih=>
    intro i s hn hi
    have H:=ih (i+1) (stp s (rd l (i:Int))) (by omega) (by omega)
    refine Ev.step (fun k=>rfl) ?_
    simp only [spec_l03Stir.l0,show ((i:Int)<(l.length:Int)) by omega,show (0:Int)≤(i:Int) by omega,if_true,sRot7,sRot13,sRot17,Option.bind_some,next64 (show i<4611686018427387904 by omega)]
    rw [drop_rd l i (by omega)]
    exact H
theorem sStir_ev (s:Int×Int×Int×Int) (l:List Int) (hl:l.length≤281474976710656):Ev (fun k=>spec_l03Stir.f k s.1 s.2.1 s.2.2.1 s.2.2.2 l) (l.foldl stp s):=by
  simp only [spec_l03Stir.f]
  exact sStir_loop l hl l.length 0 s (by omega) (by omega)
theorem iStir_loop (l:List Int) (hl:l.length≤281474976710656) (n:Nat):∀ (i:Nat) (s:Int×Int×Int×Int),l.length - i=n→i≤l.length→Ev (fun k=>impl_stirrer_stir.l0 k l (l.length:Int) (i:Int) s.1 s.2.1 s.2.2.1 s.2.2.2) ((l.drop i).foldl stp s):=by
  induction n with
  |zero=>
    intro i s hn hi
    refine Ev.step (fun k=>rfl) ?_
    simp only [impl_stirrer_stir.l0,show ¬ ((i:Int)<(l.length:Int)) by omega,if_false]
    rw [List.drop_eq_nil_of_le (by omega)]
    exact Ev.now _
  |succ n ih=>
    intro i s hn hi
    have H:=ih (i+1) (stp s (rd l (i:Int))) (by omega) (by omega)
    refine Ev.step (fun k=>rfl) ?_
    simp only [impl_stirrer_stir.l0,show ((i:Int)<(l.length:Int)) by omega,show (0:Int)≤(i:Int) by omega,if_true,iRot7,iRot13,iRot17,Option.bind_some,next64 (show i<4611686018427387904 by omega)]
    rw [drop_rd l i (by omega)]
    exact H
theorem iStir_ev (s:Int×Int×Int×Int) (l:List Int) (hl:l.length≤281474976710656):Ev (fun k=>impl_stirrer_stir.f k s.1 s.2.1 s.2.2.1 s.2.2.2 l) (l.foldl stp s):=by
  simp only [impl_stirrer_stir.f]
  exact iStir_loop l hl l.length 0 s (by omega) (by omega)
def it:Nat→Int×Int×Int×Int→Int×Int×Int×Int
  |0,s=>s
  |n+1,s=>it n (stp s 165)
theorem B4_it:∀ n s,B4 s→B4 (it n s)
  |0,_,h=>h
  |n+1,s,_=>B4_it n _ (B4_stp s 165)
def d4 (s:Int×Int×Int×Int):List Int:=dg s.1 4 ++ dg s.2.1 4 ++ dg s.2.2.1 4 ++ dg s.2.2.2 4
theorem d4_length (s:Int×Int×Int×Int):(d4 s).length=16:=by simp [d4,dg_length]
theorem sEnd_loop (n:Nat):∀ (i:Nat) (s:Int×Int×Int×Int),16 - i=n→i≤16→B4 s→Ev (fun k=>spec_l03Digest.l0 k (i:Int) s.1 s.2.1 s.2.2.1 s.2.2.2) (d4 (it n s)):=by
  induction n with
  |zero=>
    intro i s hn hi hs
    obtain rfl:i=16:=by omega
    obtain ⟨⟨a0,a1⟩,⟨b0,b1⟩,⟨c0,c1⟩,d0,d1⟩:=hs
    refine Ev.step (fun k=>rfl) ?_
    simp only [spec_l03Digest.l0,show ¬ (((16:Nat):Int)<16) by decide,if_false,w64 (x:=s.1) (by omega) (by omega),w64 (x:=s.2.1) (by omega) (by omega),w64 (x:=s.2.2.1) (by omega) (by omega),w64 (x:=s.2.2.2) (by omega) (by omega)]
    refine Ev.bind (digits_ev 4 _ (by omega) a0 (by omega)) ?_
    refine Ev.bind (digits_ev 4 _ (by omega) b0 (by omega)) ?_
    simp only [dg_length,List.length_append,Option.bind_some,show 4+4<140737488355328 by decide,if_true]
    refine Ev.bind (digits_ev 4 _ (by omega) c0 (by omega)) ?_
    simp only [dg_length,List.length_append,Option.bind_some,show 4+4+4<140737488355328 by decide,if_true]
    refine Ev.bind (digits_ev 4 _ (by omega) d0 (by omega)) ?_
    simp only [dg_length,List.length_append,show 4+4+4+4<140737488355328 by decide,if_true]
    exact Ev.now _
  |succ n ih=>
    intro i s hn hi hs
    have H:=ih (i+1) (stp s 165) (by omega) (by omega) (B4_stp s 165)
    refine Ev.step (fun k=>rfl) ?_
    simp only [spec_l03Digest.l0,show ((i:Int)<16) by omega,if_true,next64 (show i<4611686018427387904 by omega)]
    refine Ev.bind (sStir_ev s [165] (by simp)) ?_
    exact H
theorem iOut_ev (s:Int×Int×Int×Int) (hs:B4 s):Ev (fun k=>impl_digest.l1 k [] s.1 s.2.1 s.2.2.1 s.2.2.2 0) (d4 s):=by
  obtain ⟨⟨a0,a1⟩,⟨b0,b1⟩,⟨c0,c1⟩,d0,d1⟩:=hs
  refine Ev.step (fun k=>rfl) ?_
  simp only [impl_digest.l1,show pick4 s.1 s.2.1 s.2.2.1 s.2.2.2 0=s.1 from rfl,show (0:Int)<4 by decide,show (0:Int)≤0 by decide,if_true,w64 (x:=s.1) (by omega) (by omega),show wrap64 (0+1)=1 by decide +kernel]
  refine Ev.bind (fixed_ev _ 4 _ a0 (by omega) (by omega) (by simp)) ?_
  refine Ev.step (fun k=>rfl) ?_
  simp only [impl_digest.l1,show pick4 s.1 s.2.1 s.2.2.1 s.2.2.2 1=s.2.1 from rfl,show (1:Int)<4 by decide,show (0:Int)≤1 by decide,if_true,w64 (x:=s.2.1) (by omega) (by omega),show wrap64 (1+1)=2 by decide +kernel]
  refine Ev.bind (fixed_ev _ 4 _ b0 (by omega) (by omega) (by simp [dg_length])) ?_
  refine Ev.step (fun k=>rfl) ?_
  simp only [impl_digest.l1,show pick4 s.1 s.2.1 s.2.2.1 s.2.2.2 2=s.2.2.1 from rfl,show (2:Int)<4 by decide,show (0:Int)≤2 by decide,if_true,w64 (x:=s.2.2.1) (by omega) (by omega),show wrap64 (2+1)=3 by decide +kernel]
  refine Ev.bind (fixed_ev _ 4 _ c0 (by omega) (by omega) (by simp [dg_length])) ?_
  refine Ev.step (fun k=>rfl) ?_
  simp only [impl_digest.l1,show pick4 s.1 s.2.1 s.2.2.1 s.2.2.2 3=s.2.2.2 from rfl,show (3:Int)<4 by decide,show (0:Int)≤3 by decide,if_true,w64 (x:=s.2.2.2) (by omega) (by omega),show wrap64 (3+1)=4 by decide +kernel]
  refine Ev.bind (fixed_ev _ 4 _ d0 (by omega) (by omega) (by simp [dg_length])) ?_
  refine Ev.step (fun k=>rfl) ?_
  simp only [impl_digest.l1,show ¬ ((4:Int)<4) by decide,if_false]
  exact Ev_now (by simp [d4])
theorem iEnd_loop (n:Nat):∀ (i:Nat) (s:Int×Int×Int×Int),16 - i=n→i≤16→B4 s→Ev (fun k=>impl_digest.l0 k (i:Int) s.1 s.2.1 s.2.2.1 s.2.2.2) (d4 (it n s)):=by
  induction n with
  |zero=>
    intro i s hn hi hs
    obtain rfl:i=16:=by omega
    refine Ev.step (fun k=>rfl) ?_
    simp only [impl_digest.l0,show ¬ (((16:Nat):Int)<16) by decide,if_false]
    exact iOut_ev s hs
  |succ n ih=>
    intro i s hn hi hs
    have H:=ih (i+1) (stp s 165) (by omega) (by omega) (B4_stp s 165)
    refine Ev.step (fun k=>rfl) ?_
    simp only [impl_digest.l0,show ((i:Int)<16) by omega,if_true,next64 (show i<4611686018427387904 by omega)]
    refine Ev.bind (iStir_ev s [165] (by simp)) ?_
    exact H
def s0:Int×Int×Int×Int:=(1779033703,3144134277,1013904242,2773480762)
def s4 (key data:List Int):Int×Int×Int×Int:=(dg (data.length:Int) 4).foldl stp (data.foldl stp (key.foldl stp ((dg (key.length:Int) 4).foldl stp s0)))
def dgst (key data:List Int):List Int:=d4 (it 16 (s4 key data))
theorem B4_s4 (key data:List Int):B4 (s4 key data):=B4_fold _ _ (B4_fold _ _ (B4_fold _ _ (B4_fold _ _ (by unfold B4 s0;decide))))
theorem dgst_length (key data:List Int):(dgst key data).length=16:=d4_length _
theorem dgst_byte (key data:List Int):∀ x∈dgst key data,0≤x∧x<256:=by
  intro x hx
  simp only [dgst,d4,List.mem_append] at hx
  rcases hx with ((h|h)|h)|h <;> exact dg_byte _ _ x h
theorem sDigest_ev (key data:List Int) (hk:key.length≤1048576) (hd:data.length≤1048576):Ev (fun k=>spec_l03Digest.f k key data) (dgst key data):=by
  simp only [spec_l03Digest.f]
  refine Ev.bind (digits_ev 4 _ (by omega) (by omega) (by omega)) ?_
  refine Ev.bind (sStir_ev s0 _ (by simp [dg_length])) ?_
  refine Ev.bind (sStir_ev _ _ (by omega)) ?_
  refine Ev.bind (sStir_ev _ _ (by omega)) ?_
  refine Ev.bind (digits_ev 4 _ (by omega) (by omega) (by omega)) ?_
  refine Ev.bind (sStir_ev _ _ (by simp [dg_length])) ?_
  exact sEnd_loop 16 0 _ (by omega) (by omega) (B4_s4 key data)
theorem iDigest_ev (key data:List Int) (hk:key.length≤1048576) (hd:data.length≤1048576):Ev (fun k=>impl_digest.f k key data) (dgst key data):=by
  simp only [impl_digest.f,impl_stirrer_new.f,Option.bind_some]
  refine Ev.bind (fixed_ev _ 4 _ (by omega) (by omega) (by omega) (by simp)) ?_
  simp only [List.nil_append]
  refine Ev.bind (iStir_ev s0 _ (by simp [dg_length])) ?_
  refine Ev.bind (iStir_ev _ _ (by omega)) ?_
  refine Ev.bind (iStir_ev _ _ (by omega)) ?_
  refine Ev.bind (fixed_ev _ 4 _ (by omega) (by omega) (by omega) (by simp)) ?_
  simp only [List.nil_append]
  refine Ev.bind (iStir_ev _ _ (by simp [dg_length])) ?_
  exact iEnd_loop 16 0 _ (by omega) (by omega) (B4_s4 key data)
theorem szB (l:List Int) (a:Int) (h0:0≤a) (h1:a≤1048576) (hl:l.length≤9223372036854775807):(laws_szByteS.f l a=some (-1)∧a<l.length)∨(laws_szByteS.f l a=some (a - l.length)∧l.length≤a):=by
  simp only [laws_szByteS.f,w64 (x:=a - (l.length:Int)) (by omega) (by omega)]
  by_cases c:a - (l.length:Int)<0
  · rw [if_pos c];exact .inl ⟨rfl,by omega⟩
  · rw [if_neg c];exact .inr ⟨rfl,by omega⟩
theorem szKeys_ev (a b c d:List Int) (ha:a.length≤maxLen) (hb:b.length≤maxLen) (hc:c.length≤maxLen) (hd:d.length≤maxLen):∃ t,laws_szKeys.f a b c d 1048576=some t∧t≤1048576∧(t<0∨(a.length≤1048576∧b.length≤1048576∧c.length≤1048576∧d.length≤1048576)):=by
  unfold maxLen at ha hb hc hd
  have m1:(-1:Int)<0:=by decide
  rcases szB a 1048576 (by omega) (by omega) (by omega) with ⟨e1,h1⟩|⟨e1,h1⟩
  · exact ⟨-1,by simp only [laws_szKeys.f,e1,Option.bind_some,m1,if_true],by decide, .inl m1⟩
  rcases szB b (1048576 - a.length) (by omega) (by omega) (by omega) with ⟨e2,h2⟩|⟨e2,h2⟩
  · exact ⟨-1,by simp only [laws_szKeys.f,e1,e2,Option.bind_some,show ¬ (1048576 - (a.length:Int)<0) by omega,m1,if_true,if_false],by decide, .inl m1⟩
  rcases szB c (1048576 - a.length - b.length) (by omega) (by omega) (by omega) with ⟨e3,h3⟩|⟨e3,h3⟩
  · exact ⟨-1,by simp only [laws_szKeys.f,e1,e2,e3,Option.bind_some,show ¬ (1048576 - (a.length:Int)<0) by omega,show ¬ (1048576 - (a.length:Int) - (b.length:Int)<0) by omega,m1,if_true,if_false],by decide, .inl m1⟩
  rcases szB d (1048576 - a.length - b.length - c.length) (by omega) (by omega) (by omega) with ⟨e4,h4⟩|⟨e4,h4⟩
  · exact ⟨-1,by simp only [laws_szKeys.f,e1,e2,e3,e4,Option.bind_some,show ¬ (1048576 - (a.length:Int)<0) by omega,show ¬ (1048576 - (a.length:Int) - (b.length:Int)<0) by omega,show ¬ (1048576 - (a.length:Int) - (b.length:Int) - (c.length:Int)<0) by omega,m1,if_true,if_false],by decide, .inl m1⟩
  · exact ⟨1048576 - a.length - b.length - c.length - d.length,by simp only [laws_szKeys.f,e1,e2,e3,e4,Option.bind_some,show ¬ (1048576 - (a.length:Int)<0) by omega,show ¬ (1048576 - (a.length:Int) - (b.length:Int)<0) by omega,show ¬ (1048576 - (a.length:Int) - (b.length:Int) - (c.length:Int)<0) by omega,show ¬ (1048576 - (a.length:Int) - (b.length:Int) - (c.length:Int) - (d.length:Int)<0) by omega,if_false],by omega, .inr ⟨by omega,by omega,by omega,by omega⟩⟩
theorem toKeys_ev (a b c d:List Int) (ha:a.length≤1048576) (hb:b.length≤1048576) (hc:c.length≤1048576) (hd:d.length≤1048576):Ev (fun k=>laws_toKeys.f k a b c d) (a,b,c,d):=by
  simp only [laws_toKeys.f]
  refine Ev.bind (toByteS_ev _ (by omega)) ?_
  refine Ev.bind (toByteS_ev _ (by omega)) ?_
  refine Ev.bind (toByteS_ev _ (by omega)) ?_
  refine Ev.bind (toByteS_ev _ (by omega)) ?_
  exact Ev.now _
theorem eqKeys_ev (a b c d:List Int) (ha:a.length≤1048576) (hb:b.length≤1048576) (hc:c.length≤1048576) (hd:d.length≤1048576):Ev (fun k=>laws_eqKeys.f k a b c d a b c d) true:=by
  simp only [laws_eqKeys.f]
  refine Ev.bind (eqByteS_ev _ (by omega)) ?_
  simp only [if_true]
  refine Ev.bind (eqByteS_ev _ (by omega)) ?_
  simp only [if_true]
  refine Ev.bind (eqByteS_ev _ (by omega)) ?_
  simp only [if_true]
  refine Ev.bind (eqByteS_ev _ (by omega)) ?_
  simp only [if_true]
  exact Ev.now _
theorem markKeys_ev (a b c d:List Int) (m:Int) (hm:0≤m) (hm1:m≤4294967296) (ha:a.length≤1048576) (hb:b.length≤1048576) (hc:c.length≤1048576) (hd:d.length≤1048576) :
    Ev (fun k=>laws_markKeys.f k a b c d m) (m+a.length+b.length+c.length+d.length,marks m a.length,marks (m+a.length) b.length,marks (m+a.length+b.length) c.length,marks (m+a.length+b.length+c.length) d.length):=by
  simp only [laws_markKeys.f]
  refine Ev.bind (markByteS_ev _ _ (by omega) (by omega)) ?_
  refine Ev.bind (markByteS_ev _ _ (by omega) (by omega)) ?_
  refine Ev.bind (markByteS_ev _ _ (by omega) (by omega)) ?_
  refine Ev.bind (markByteS_ev _ _ (by omega) (by omega)) ?_
  exact Ev.now _
theorem keysOK (a b c d:List Int):∃ t,spec_l03KeysOK.f a b c d=some t∧impl_keysOK.f a b c d=some t∧(t=true→a.length=16∧b.length=16∧c.length=8∧d.length=16):=by
  unfold spec_l03KeysOK.f impl_keysOK.f
  by_cases h1:(a.length:Int)=16
  · by_cases h2:(b.length:Int)=16
    · by_cases h3:(c.length:Int)=8
      · by_cases h4:(d.length:Int)=16
        · exact ⟨true,by rw [if_pos h1,if_pos h2,if_pos h3,h4];rfl,by rw [if_pos h1,if_pos h2,if_pos h4,h3];rfl,fun _=>⟨by omega,by omega,by omega,by omega⟩⟩
        · have h4' :((d.length:Int) == 16)=false:=beq_eq_false_iff_ne.mpr h4
          exact ⟨false,by rw [if_pos h1,if_pos h2,if_pos h3,h4'],by rw [if_pos h1,if_pos h2,if_neg h4],fun h=>by cases h⟩
      · have h3' :((c.length:Int) == 8)=false:=beq_eq_false_iff_ne.mpr h3
        by_cases h4:(d.length:Int)=16
        · exact ⟨false,by rw [if_pos h1,if_pos h2,if_neg h3],by rw [if_pos h1,if_pos h2,if_pos h4,h3'],fun h=>by cases h⟩
        · exact ⟨false,by rw [if_pos h1,if_pos h2,if_neg h3],by rw [if_pos h1,if_pos h2,if_neg h4],fun h=>by cases h⟩
    · exact ⟨false,by rw [if_pos h1,if_neg h2],by rw [if_pos h1,if_neg h2],fun h=>by cases h⟩
  · exact ⟨false,by rw [if_neg h1],by rw [if_neg h1],fun h=>by cases h⟩
theorem xor_comm8 (a b:Int):Go.bits .xor .u8 a b=Go.bits .xor .u8 b a:=by
  show IntKind.u8.wrap ((BitVec.ofInt IntKind.u8.bits a ^^^ BitVec.ofInt IntKind.u8.bits b).toNat:Int)=IntKind.u8.wrap ((BitVec.ofInt IntKind.u8.bits b ^^^ BitVec.ofInt IntKind.u8.bits a).toNat:Int)
  rw [BitVec.xor_comm]
theorem rd_eq {x y:List Int} {i:Nat} (h:x[i]? =y[i]?):rd x (i:Int)=rd y (i:Int):=by
  unfold rd
  rw [Int.toNat_natCast,List.getD_eq_getElem?_getD,List.getD_eq_getElem?_getD,h]
def xzN (a b:List Int) (n:Nat):List Int:=(List.range n).map fun i:Nat=>Go.bits .xor .u8 (rd a (i:Int)) (rd b (i:Int))
theorem xzN_length (a b:List Int) (n:Nat):(xzN a b n).length=n:=by simp [xzN]
theorem xzN_succ (a b:List Int) (n:Nat):xzN a b (n+1)=xzN a b n ++ [Go.bits .xor .u8 (rd a (n:Int)) (rd b (n:Int))]:=by simp [xzN,List.range_succ]
theorem xzN_get (a b:List Int) {n i:Nat} (h:i<n):(xzN a b n)[i]? =some (Go.bits .xor .u8 (rd a (i:Int)) (rd b (i:Int))):=by simp [xzN,h]
theorem sXor_loop (a b:List Int) (hab:a.length≤b.length) (ha:a.length≤1048576) (n:Nat):∀ i:Nat,a.length - i=n→i≤a.length→Ev (fun k=>spec_l03Xor.l0 k a b (xzN a b i) (i:Int)) (xzN a b a.length):=by
  induction n with
  |zero=>
    intro i hn hi
    obtain rfl:i=a.length:=by omega
    refine Ev.step (fun k=>rfl) ?_
    simp only [spec_l03Xor.l0,show ¬ ((a.length:Int)<(a.length:Int)) by omega,if_false]
    exact Ev.now _
  |succ n ih=>
    intro i hn hi
    have H:=ih (i+1) (by omega) (by omega)
    rw [xzN_succ] at H
    refine Ev.step (fun k=>rfl) ?_
    simp only [spec_l03Xor.l0,show ((i:Int)<(a.length:Int)) by omega,show (0:Int)≤(i:Int) by omega,show ((i:Int)<(b.length:Int)) by omega,xzN_length,show i<140737488355328 by omega,if_true,next64 (show i<4611686018427387904 by omega)]
    exact H
theorem sXor_ev (a b:List Int) (hab:a.length≤b.length) (ha:a.length≤1048576):Ev (fun k=>spec_l03Xor.f k a b) (xzN a b a.length):=by
  simp only [spec_l03Xor.f]
  exact sXor_loop a b hab ha a.length 0 (by omega) (by omega)
theorem iNonce_loop (x0 x1 c x3 d:List Int) (hc:c.length=8) (hd:d.length=8) (n:Nat):∀ (i:Nat) (x:List Int),8 - i=n→i≤8→x.length=8→(∀ j,j<i→x[j]? =(xzN c d 8)[j]?)→(∀ j,i≤j→x[j]? =d[j]?)→Ev (fun k=>impl_nonceOf.l0 k x 8 (i:Int) x0 x1 c x3) (xzN c d 8):=by
  induction n with
  |zero=>
    intro i x hn hi hx h1 h2
    obtain rfl:i=8:=by omega
    refine Ev.step (fun k=>rfl) ?_
    simp only [impl_nonceOf.l0,show ¬ (((8:Nat):Int)<8) by decide,if_false]
    exact Ev_now (prefix_all (by rw [xzN_length,hx]) (fun j hj=>h1 j (by rw [xzN_length] at hj;exact hj)))
  |succ n ih=>
    intro i x hn hi hx h1 h2
    have e:Go.bits .xor .u8 (rd x (i:Int)) (rd c (i:Int))=Go.bits .xor .u8 (rd c (i:Int)) (rd d (i:Int)):=by rw [rd_eq (h2 i (Nat.le_refl _)),xor_comm8]
    have H:=ih (i+1) (x.set i (Go.bits .xor .u8 (rd c (i:Int)) (rd d (i:Int)))) (by omega) (by omega) (by rw [List.length_set];exact hx) (set_prefix (by rw [xzN_length,hx]) (xzN_get c d (by omega)) h1) (fun j hj=>by rw [List.getElem?_set_ne (by omega)];exact h2 j (by omega))
    refine Ev.step (fun k=>rfl) ?_
    simp only [impl_nonceOf.l0,show ((i:Int)<8) by omega,show (0:Int)≤(i:Int) by omega,hx,hc,show ((i:Int)<((8:Nat):Int)) by omega,if_true,Int.toNat_natCast,next64 (show i<4611686018427387904 by omega),e]
    exact H
theorem iNonce_ev (x0 x1 c x3:List Int) (num:Int) (hc:c.length=8) (h0:0≤num) (h1:num≤4611686018427387903):Ev (fun k=>impl_nonceOf.f k x0 x1 c x3 num) (xzN c (dg num 8) 8):=by
  simp only [impl_nonceOf.f]
  refine Ev.bind (fixed_ev num 8 [] h0 (by omega) (by omega) (by simp)) ?_
  simp only [List.nil_append,dg_length]
  exact iNonce_loop x0 x1 c x3 (dg num 8) hc (dg_length _ _) 8 0 _ (by omega) (by omega) (dg_length _ _) (fun j hj=>by omega) (fun j hj=>rfl)
theorem sCat (a b:List Int) (ha:a.length≤4194304) (hb:b.length≤4194304):spec_l03Cat.f a b=some (a ++ b):=by
  simp only [spec_l03Cat.f,Option.bind_some,List.length_nil,Nat.zero_add,List.nil_append]
  rw [if_pos (by omega),if_pos (by omega)]
def blkN (key nonce:List Int) (j:Nat):List Int:=dgst key (nonce ++ dg (j:Int) 4)
theorem blkN_length (key nonce:List Int) (j:Nat):(blkN key nonce j).length=16:=dgst_length _ _
def strm (key nonce:List Int):Nat→List Int
  |0=>[]
  |j+1=>strm key nonce j ++ blkN key nonce j
theorem strm_length (key nonce:List Int):∀ j,(strm key nonce j).length=16*j
  |0=>rfl
  |j+1=>by simp [strm,blkN_length,strm_length key nonce j];omega
theorem strm_get (key nonce:List Int) (i:Nat):∀ j,i<16*j→(strm key nonce j)[i]? =(blkN key nonce (i / 16))[i%16]?
  |0,h=>by omega
  |j+1,h=>by
    by_cases c:i<16*j
    · simp only [strm]
      rw [List.getElem?_append_left (by rw [strm_length];exact c)]
      exact strm_get key nonce i j c
    · simp only [strm]
      rw [List.getElem?_append_right (by rw [strm_length];omega),strm_length,show i / 16=j by omega,show i - 16*j=i%16 by omega]
theorem sStream_loop (x0 key x2 x3 nonce:List Int) (n:Nat) (hn:n≤2000) (hk:key.length≤1048576) (hc:nonce.length≤64) (m:Nat):∀ j:Nat,(n+15) / 16 - j=m→j≤(n+15) / 16→Ev (fun k=>spec_l03Stream.l0 k nonce (n:Int) (strm key nonce j) (j:Int) x0 key x2 x3) (strm key nonce ((n+15) / 16)):=by
  induction m with
  |zero=>
    intro j hm hj
    obtain rfl:j=(n+15) / 16:=by omega
    refine Ev.step (fun k=>rfl) ?_
    simp only [spec_l03Stream.l0,strm_length,show ¬ (((16*((n+15) / 16):Nat):Int)<(n:Int)) by omega,if_false]
    exact Ev.now _
  |succ m ih=>
    intro j hm hj
    have H:=ih (j+1) (by omega) (by omega)
    refine Ev.step (fun k=>rfl) ?_
    simp only [spec_l03Stream.l0,strm_length,show (((16*j:Nat):Int)<(n:Int)) by omega,if_true,next64 (show j<4611686018427387904 by omega)]
    refine Ev.bind (digits_ev 4 _ (by omega) (by omega) (by omega)) ?_
    simp only [sCat nonce (dg (j:Int) 4) (by omega) (by rw [dg_length];omega),Option.bind_some]
    refine Ev.bind (sDigest_ev key _ hk (by rw [List.length_append,dg_length];omega)) ?_
    refine Ev_ite (fun _=>H) (fun c=>absurd (by rw [dgst_length];omega) c)
theorem sStream_ev (x0 key x2 x3 nonce:List Int) (n:Nat) (hn:n≤2000) (hk:key.length≤1048576) (hc:nonce.length≤64):Ev (fun k=>spec_l03Stream.f k x0 key x2 x3 nonce (n:Int)) (strm key nonce ((n+15) / 16)):=by
  simp only [spec_l03Stream.f]
  exact sStream_loop x0 key x2 x3 nonce n hn hk hc _ 0 rfl (by omega)
def cst (key nonce body:List Int):List Int:=(List.range body.length).map fun i:Nat=>Go.bits .xor .u8 (rd body (i:Int)) (rd (blkN key nonce (i / 16)) ((i%16:Nat):Int))
theorem cst_length (key nonce body:List Int):(cst key nonce body).length=body.length:=by simp [cst]
theorem cst_get (key nonce body:List Int) {i:Nat} (h:i<body.length):(cst key nonce body)[i]? =some (Go.bits .xor .u8 (rd body (i:Int)) (rd (blkN key nonce (i / 16)) ((i%16:Nat):Int))):=by simp [cst,h]
theorem xz_strm (key nonce body:List Int):xzN body (strm key nonce ((body.length+15) / 16)) body.length=cst key nonce body:=by
  unfold xzN cst
  apply List.map_congr_left
  intro i hi
  have hi:=List.mem_range.1 hi
  have h:=strm_get key nonce i ((body.length+15) / 16) (by omega)
  have e:rd (strm key nonce ((body.length+15) / 16)) (i:Int)=rd (blkN key nonce (i / 16)) ((i%16:Nat):Int):=by
    unfold rd
    rw [Int.toNat_natCast,Int.toNat_natCast,List.getD_eq_getElem?_getD,List.getD_eq_getElem?_getD,h]
  rw [e]
theorem iStreamed_loop (x0 key x2 x3 nonce body:List Int) (hk:key.length≤1048576) (hc:nonce.length≤64) (hb:body.length≤2000) (n:Nat):∀ (i:Nat) (x b:List Int),body.length - i=n→i≤body.length→x.length=body.length→(∀ j,j<i→x[j]? =(cst key nonce body)[j]?)→(∀ j,i≤j→x[j]? =body[j]?)→(i%16≠0→b=blkN key nonce (i / 16))→
    Ev (fun k=>impl_streamed.l0 k nonce x b (body.length:Int) (i:Int) x0 key x2 x3) (cst key nonce body):=by
  induction n with
  |zero=>
    intro i x b hn hi hx h1 h2 hblk
    obtain rfl:i=body.length:=by omega
    refine Ev.step (fun k=>rfl) ?_
    simp only [impl_streamed.l0,show ¬ ((body.length:Int)<(body.length:Int)) by omega,if_false]
    exact Ev_now (prefix_all (by rw [cst_length,hx]) (fun j hj=>h1 j (by rw [cst_length] at hj;exact hj)))
  |succ n ih=>
    intro i x b hn hi hx h1 h2 hblk
    have hil:i<body.length:=by omega
    have t1:Int.tmod (i:Int) 16=((i%16:Nat):Int):=by rw [tmod_nn (by omega)];omega
    have b1:(i:Int)<(body.length:Int):=by omega
    have b2:(0:Int)≤(i:Int):=by omega
    have b3:nonce.length<140737488355328:=by omega
    have b4:(0:Int)≤((i%16:Nat):Int):=by omega
    have b5:((i%16:Nat):Int)<((16:Nat):Int):=by omega
    have b6:(0:Int)≤((i / 16:Nat):Int):=by omega
    have b7:((i / 16:Nat):Int)≤9223372036854775807:=by omega
    have b8:nonce.length+8<140737488355328:=by omega
    have b9:(nonce ++ dg ((i / 16:Nat):Int) 4).length≤1048576:=by rw [List.length_append,dg_length];omega
    have n1:body.length - (i+1)=n:=by omega
    have n2:i+1≤body.length:=by omega
    have n3:(i+1)%16≠0→blkN key nonce (i / 16)=blkN key nonce ((i+1) / 16):=fun h=>by rw [show (i+1) / 16=i / 16 by omega]
    have n4:∀ j,i+1≤j→(x.set i (Go.bits .xor .u8 (rd body (i:Int)) (rd (blkN key nonce (i / 16)) ((i%16:Nat):Int))))[j]? =body[j]?:=fun j hj=>by rw [List.getElem?_set_ne (by omega)];exact h2 j (by omega)
    have H:=ih (i+1) (x.set i (Go.bits .xor .u8 (rd body (i:Int)) (rd (blkN key nonce (i / 16)) ((i%16:Nat):Int)))) (blkN key nonce (i / 16)) n1 n2 (by rw [List.length_set];exact hx) (set_prefix (by rw [cst_length,hx]) (cst_get key nonce body hil) h1) n4 n3
    have dl:(dgst key (nonce ++ dg ((i / 16:Nat):Int) 4)).length=16:=dgst_length _ _
    have hi64:i<4611686018427387904:=by omega
    have t2:wrap64 (Int.tdiv (i:Int) 16)=((i / 16:Nat):Int):=by rw [tdiv_nn (by omega),w64 (by omega) (by omega)];omega
    have nx:=next64 hi64
    have er:rd x (i:Int)=rd body (i:Int):=rd_eq (h2 i (Nat.le_refl _))
    refine Ev.step (fun k=>rfl) ?_
    by_cases c:i%16=0
    · have c0:((i%16:Nat):Int)=0:=by rw [c];rfl
      simp only [impl_streamed.l0,b1,t1,t2,c0,b2,hx,if_true,Option.bind_some,List.length_nil,Nat.zero_add,List.nil_append,b3,Int.toNat_natCast,nx,er,show (0:Int)≤0 from Int.le_refl 0]
      refine Ev.bind (fixed_ev _ 4 _ b6 b7 (by decide) b8) ?_
      refine Ev.bind (iDigest_ev key _ hk b9) ?_
      rw [c0] at H
      refine Ev_ite (fun _=>H) (fun c=>absurd (by rw [dl];decide) c)
    · obtain rfl:=hblk c
      have c0: ¬ (((i%16:Nat):Int)=0):=fun h=>c (by exact_mod_cast h)
      simp only [impl_streamed.l0,b1,t1,c0,b2,hx,if_true,if_false,b4,blkN_length,b5,Int.toNat_natCast,nx,er]
      exact H
theorem iStreamed_ev (x0 key x2 x3 nonce body:List Int) (hk:key.length≤1048576) (hc:nonce.length≤64) (hb:body.length≤2000):Ev (fun k=>impl_streamed.f k x0 key x2 x3 nonce body) (cst key nonce body):=by
  simp only [impl_streamed.f,Option.bind_some,List.length_nil,Nat.zero_add,List.nil_append,show body.length<140737488355328 by omega,if_true]
  exact iStreamed_loop x0 key x2 x3 nonce body hk hc hb body.length 0 body [] (by omega) (by omega) rfl (fun j hj=>by omega) (fun j hj=>rfl) (fun h=>by omega)
def tg (key nonce head body:List Int):List Int:=(dgst key (nonce ++ [255,255,255,255] ++ dg (head.length:Int) 4 ++ head ++ body)).take 8
theorem tg_length (key nonce head body:List Int):(tg key nonce head body).length=8:=by simp [tg,dgst_length]
theorem sTag_ev (x0 key x2 x3 nonce head body:List Int) (hk:key.length≤1048576) (hc:nonce.length≤64) (hh:head.length≤2000) (hb:body.length≤2000):Ev (fun k=>spec_l03Tag.f k x0 key x2 x3 nonce head body) (tg key nonce head body):=by
  simp only [spec_l03Tag.f,sCat nonce [255,255,255,255] (by omega) (by simp),Option.bind_some]
  refine Ev.bind (digits_ev 4 _ (by omega) (by omega) (by omega)) ?_
  refine Ev_ite (fun _=>?_) (fun c=>absurd (by simp [dg_length];omega) c)
  refine Ev_ite (fun _=>?_) (fun c=>absurd (by simp [dg_length];omega) c)
  refine Ev_ite (fun _=>?_) (fun c=>absurd (by simp [dg_length];omega) c)
  refine Ev.bind (sDigest_ev key _ hk (by simp [dg_length];omega)) ?_
  simp only [dgst_length,show (8:Int)≤((16:Nat):Int) by decide,if_true]
  exact Ev.now _
theorem iTag_ev (x0 key x2 x3 nonce head body:List Int) (hk:key.length≤1048576) (hc:nonce.length≤64) (hh:head.length≤2000) (hb:body.length≤2000):Ev (fun k=>impl_tagOf.f k x0 key x2 x3 nonce head body) (tg key nonce head body):=by
  simp only [impl_tagOf.f,Option.bind_some,List.length_nil,Nat.zero_add,List.nil_append]
  refine Ev_ite (fun _=>?_) (fun c=>absurd (by omega) c)
  refine Ev_ite (fun _=>?_) (fun c=>absurd (by simp;omega) c)
  refine Ev.bind (fixed_ev _ 4 _ (by omega) (by omega) (by omega) (by simp;omega)) ?_
  refine Ev_ite (fun _=>?_) (fun c=>absurd (by simp [dg_length];omega) c)
  refine Ev_ite (fun _=>?_) (fun c=>absurd (by simp [dg_length];omega) c)
  refine Ev.bind (iDigest_ev key _ hk (by simp [dg_length];omega)) ?_
  simp only [dgst_length,show (8:Int)≤((16:Nat):Int) by decide,if_true]
  exact Ev.now _
theorem iInVar (v:Int):impl_inVar.f v=some (decide (0≤v∧v≤4611686018427387903)):=by
  unfold impl_inVar.f
  by_cases h:v≥0
  · rw [if_pos h];exact congrArg some (by rw [decide_eq_decide];omega)
  · rw [if_neg h];exact congrArg some (decide_eq_false (by omega)).symm
theorem bothSeal (a b c d:List Int) (v:Int) (h y:List Int) (hh:h.length≤1048576) (hy:y.length≤1048576):∃ w e,Ev (fun k=>spec_Seal.f k a b c d v h y) (w,e)∧Ev (fun k=>impl_Seal.f k a b c d v h y) (w,e)∧w.length≤2000∧
    ((a.length=16∧b.length=16∧c.length=8∧d.length=16∧0≤v∧v≤4611686018427387903∧h.length+y.length≤1500)→w=cst b (xzN c (dg v 8) 8) y ++ tg b (xzN c (dg v 8) 8) h (cst b (xzN c (dg v 8) 8) y)∧e=0):=by
  have sT:Ev (fun k=>spec_Seal.j0 k v h y true a b c d) ([],1):=Ev.step (f:=fun _=>some ([],1)) (fun k=>by simp only [spec_Seal.j0,if_true]) (Ev.now _)
  have iT:Ev (fun k=>impl_Seal.j0 k v h y true a b c d) ([],1):=Ev.step (f:=fun _=>some ([],1)) (fun k=>by simp only [impl_Seal.j0,if_true]) (Ev.now _)
  obtain ⟨t,hs,hi,hl⟩:=keysOK a b c d
  simp only [spec_Seal.f,impl_Seal.f,hs,hi,Option.bind_some,iInVar]
  cases t with
  |false=>
    simp only [Bool.false_eq_true,if_false]
    refine ⟨[],1,sT,iT,by simp,fun hz=>?_⟩
    exfalso
    obtain ⟨z1,z2,z3,z4, -⟩:=hz
    unfold impl_keysOK.f at hi
    rw [if_pos (by omega),if_pos (by omega),if_pos (by omega),show ((c.length:Int) == 8)=true by rw [z3];rfl] at hi
    cases hi
  |true=>
    obtain ⟨ha,hb,hc,hd⟩:=hl rfl
    simp only [if_true]
    by_cases c1:0≤v∧v≤4611686018427387903
    · simp only [show ¬ v<0 by omega,show ¬ v>4611686018427387903 by omega,decide_eq_true c1,if_false,decide_false,Bool.not_true]
      have wl:wrap64 ((h.length:Int)+(y.length:Int))=(h.length:Int)+(y.length:Int):=w64 (by omega) (by omega)
      by_cases c2:(h.length:Int)+(y.length:Int)>1500
      · refine ⟨[],4,?_,?_,by simp,fun hz=>by omega⟩
        · refine Ev.step (fun k=>rfl) ?_
          simp only [spec_Seal.j0,Bool.false_eq_true,if_false,wl,c2,if_true]
          exact Ev.now _
        · refine Ev.step (fun k=>rfl) ?_
          simp only [impl_Seal.j0,Bool.false_eq_true,if_false,wl,c2,if_true]
          exact Ev.now _
      · refine ⟨cst b (xzN c (dg v 8) 8) y ++ tg b (xzN c (dg v 8) 8) h (cst b (xzN c (dg v 8) 8) y),0,?_,?_,by rw [List.length_append,cst_length,tg_length];omega,fun _=>⟨rfl,rfl⟩⟩
        · refine Ev.step (fun k=>rfl) ?_
          simp only [spec_Seal.j0,Bool.false_eq_true,if_false,wl,c2]
          refine Ev.bind (digits_ev 8 v (by omega) c1.1 (by omega)) ?_
          refine Ev.bind (sXor_ev c (dg v 8) (by rw [dg_length];omega) (by omega)) ?_
          rw [hc]
          refine Ev.bind (sStream_ev a b c d _ y.length (by omega) (by omega) (by rw [xzN_length];omega)) ?_
          refine Ev.bind (sXor_ev y _ (by rw [strm_length];omega) (by omega)) ?_
          rw [xz_strm]
          refine Ev.bind (sTag_ev a b c d _ h _ (by omega) (by rw [xzN_length];omega) (by omega) (by rw [cst_length];omega)) ?_
          refine Ev_ite (fun _=>Ev.now _) (fun c=>absurd (by rw [cst_length,tg_length];omega) c)
        · refine Ev.step (fun k=>rfl) ?_
          simp only [impl_Seal.j0,Bool.false_eq_true,if_false,wl,c2]
          refine Ev.bind (iNonce_ev a b c d v hc c1.1 c1.2) ?_
          refine Ev.bind (iStreamed_ev a b c d _ y (by omega) (by rw [xzN_length];omega) (by omega)) ?_
          refine Ev.bind (iTag_ev a b c d _ h _ (by omega) (by rw [xzN_length];omega) (by omega) (by rw [cst_length];omega)) ?_
          refine Ev_ite (fun _=>Ev.now _) (fun c=>absurd (by rw [cst_length,tg_length];omega) c)
    · simp only [decide_eq_false c1,Bool.not_false]
      refine ⟨[],1,?_,iT,by simp,fun hz=>absurd ⟨hz.2.2.2.2.1,hz.2.2.2.2.2.1⟩ c1⟩
      refine Ev_ite (fun _=>sT) (fun c=>?_)
      rw [decide_eq_true (by omega)]
      exact sT
theorem l04Ids_ev (v:Int) (d s:List Int) (h0:0≤v) (h1:v≤9223372036854775807) (hd:d.length≤1048576) (hs:s.length≤1048576):Ev (fun k=>spec_l04Ids.f k v d s) (dg v 4 ++ [(d.length:Int)%256] ++ d ++ [(s.length:Int)%256] ++ s):=by
  simp only [spec_l04Ids.f]
  refine Ev.bind (digits_ev 4 v (by omega) h0 h1) ?_
  simp only [dg_length,List.length_append,List.length_cons,List.length_nil,Option.bind_some]
  rw [if_pos (by omega),if_pos (by omega),if_pos (by omega),if_pos (by omega)]
  exact Ev.now _
theorem longBegin_ev (f v:Int) (d s:List Int) (h0:0≤v) (h1:v≤9223372036854775807) (hd:d.length≤1048576) (hs:s.length≤1048576):Ev (fun k=>impl_longBegin.f k f v d s) ([f] ++ dg v 4 ++ [(d.length:Int)%256] ++ d ++ [(s.length:Int)%256] ++ s):=by
  simp only [impl_longBegin.f]
  refine Ev.bind (fixed_ev v 4 [f] h0 h1 (by omega) (by simp)) ?_
  simp only [dg_length,List.length_append,List.length_cons,List.length_nil,Option.bind_some]
  rw [if_pos (by omega),if_pos (by omega),if_pos (by omega),if_pos (by omega)]
  exact Ev.now _
def vl (v:Int):Nat:=if v<64 then 1 else if v<16384 then 2 else if v<1073741824 then 4 else 8
theorem vl_cases (v:Int) (h1:v≤4611686018427387903):(vl v=1∧v<64)∨(vl v=2∧v<16384)∨(vl v=4∧v<1073741824)∨(vl v=8∧v<4611686018427387904):=by
  unfold vl
  by_cases a:v<64
  · rw [if_pos a];exact .inl ⟨rfl,a⟩
  by_cases b:v<16384
  · rw [if_neg a,if_pos b];exact .inr (.inl ⟨rfl,b⟩)
  by_cases c:v<1073741824
  · rw [if_neg a,if_neg b,if_pos c];exact .inr (.inr (.inl ⟨rfl,c⟩))
  · rw [if_neg a,if_neg b,if_neg c];exact .inr (.inr (.inr ⟨rfl,by omega⟩))
theorem implVarLen (v:Int) (h0:0≤v) (h1:v≤4611686018427387903):impl_VarLen.f v=some (vl v:Int):=by
  unfold vl
  simp only [impl_VarLen.f,impl_inVar.f,show v≥0 from h0,if_true,decide_eq_true h1,Option.bind_some]
  by_cases a:v<64
  · simp only [a,if_true];rfl
  by_cases b:v<16384
  · simp only [a,b,if_true,if_false];rfl
  by_cases c:v<1073741824
  · simp only [a,b,c,if_true,if_false];rfl
  · simp only [a,b,c,if_false];rfl
def pv (v:Int):List Int:=(v / 256 ^ (vl v - 1)%256+vmark (vl v)) :: dg v (vl v - 1)
theorem pv_length (v:Int) (h1:v≤4611686018427387903):(pv v).length=vl v:=by
  have:=vl_cases v h1
  simp only [pv,List.length_cons,dg_length]
  omega
theorem pv_len (v:Int) (h1:v≤4611686018427387903):1≤(pv v).length∧(pv v).length≤8:=by
  rw [pv_length v h1]
  have:=vl_cases v h1
  omega
theorem dg_vl (v:Int) (h1:v≤4611686018427387903):dg v (vl v)=(v / 256 ^ (vl v - 1)%256) :: dg v (vl v - 1):=by
  have h:vl v=(vl v - 1)+1:=by have:=vl_cases v h1;omega
  rw [h];rfl
theorem top_small (v:Int) (h0:0≤v) (h1:v≤4611686018427387903):0≤v / 256 ^ (vl v - 1)%256∧v / 256 ^ (vl v - 1)%256<64:=by
  rcases vl_cases v h1 with ⟨e,h⟩|⟨e,h⟩|⟨e,h⟩|⟨e,h⟩ <;> rw [e] <;> simp <;> omega
theorem bits_or_comm (k:IntKind) (a b:Int):Go.bits .or k a b=Go.bits .or k b a:=by
  show k.wrap ((BitVec.ofInt k.bits a ||| BitVec.ofInt k.bits b).toNat:Int)=k.wrap ((BitVec.ofInt k.bits b ||| BitVec.ofInt k.bits a).toNat:Int)
  rw [BitVec.or_comm]
theorem vmark_vl (v:Int) (h1:v≤4611686018427387903):vmark (vl v)=0∨vmark (vl v)=64∨vmark (vl v)=128∨vmark (vl v)=192:=by
  rcases vl_cases v h1 with ⟨e,h⟩|⟨e,h⟩|⟨e,h⟩|⟨e,h⟩ <;> rw [e] <;> decide
theorem or_mark (d m:Int) (h0:0≤d) (h1:d<64) (hm:m=0∨m=64∨m=128∨m=192):Go.bits .or .u8 d m=d+m:=by
  rw [bits_or_comm,bits_join .u8 8 (by decide) wraps_u8 6 m d (by omega) (by omega) (by omega) h0 (by omega) (by omega)]
  omega
theorem addVar_ev (l:List Int) (v:Int) (h0:0≤v) (h1:v≤4611686018427387903) (hl:l.length+16<140737488355328):Ev (fun k=>impl_addVar.f k l v) (l ++ pv v):=by
  have hv:=vl_cases v h1
  have ht:=top_small v h0 h1
  simp only [impl_addVar.f,implVarLen v h0 h1,Option.bind_some]
  refine Ev.bind (fixed_ev v (vl v) l h0 (by omega) (by omega) (by omega)) ?_
  rw [dg_vl v h1,if_pos (by omega),if_pos (by omega),if_pos (by omega),if_pos (by simp;omega),rd_some (show (l ++ (v / 256 ^ (vl v - 1)%256) :: dg v (vl v - 1))[l.length]? =some (v / 256 ^ (vl v - 1)%256) by simp),or_mark _ _ ht.1 ht.2 (vmark_vl v h1),Int.toNat_natCast]
  exact Ev_now (by simp [pv,List.set_append])
theorem specVarLen_ev (v:Int) (h0:0≤v) (h1:v≤4611686018427387903):Ev (fun k=>spec_VarLen.f k v) (vl v:Int):=by
  unfold vl
  simp only [spec_VarLen.f,show ¬ v<0 by omega,if_false,show decide (v>4611686018427387903)=false from decide_eq_false (by omega)]
  refine Ev.step (fun k=>rfl) ?_
  simp only [spec_VarLen.j0,Bool.false_eq_true,if_false]
  by_cases a:v<64
  · simp only [a,show v≤63 by omega,if_true];exact Ev.now _
  by_cases b:v<16384
  · simp only [a,b,show ¬ v≤63 by omega,show v≤16383 by omega,if_true,if_false];exact Ev.now _
  by_cases c:v<1073741824
  · simp only [a,b,c,show ¬ v≤63 by omega,show ¬ v≤16383 by omega,show v≤1073741823 by omega,if_true,if_false];exact Ev.now _
  · simp only [a,b,c,show ¬ v≤63 by omega,show ¬ v≤16383 by omega,show ¬ v≤1073741823 by omega,if_false];exact Ev.now _
theorem specVarLen_bad (v:Int) (h:v<0∨v>4611686018427387903):Ev (fun k=>spec_VarLen.f k v) 0:=by
  have yes:Ev (fun k=>spec_VarLen.j0 k v true) 0:=Ev.step (f:=fun _=>some 0) (fun k=>by simp only [spec_VarLen.j0,if_true]) (Ev.now _)
  simp only [spec_VarLen.f]
  refine Ev_ite (fun _=>yes) (fun c=>?_)
  rw [decide_eq_true (by omega)]
  exact yes
theorem put_loop (b:List Int) (hb:0<b.length) (n:Int) (hn:n=1∨n=2∨n=4∨n=8):Ev (fun k=>spec_PutVar.l0 k n b 0 1) (b.set 0 ((rd b 0+vmark n)%256),0):=by
  have e0:∀ x:Int,Ev (fun k=>spec_PutVar.l0 k n b x n) (b.set 0 ((rd b 0+wrap64 (64*x)%256)%256),0):=by
    intro x
    refine Ev.step (fun k=>rfl) ?_
    simp only [spec_PutVar.l0,show ¬ n<n by omega,if_false,show (0:Int)<(b.length:Int) by omega,if_true]
    exact Ev.now _
  rcases hn with rfl|rfl|rfl|rfl
  · exact (show wrap64 (64*0)%256=vmark 1 by decide +kernel) ▸ e0 0
  · refine Ev.step (fun k=>rfl) ?_
    simp only [spec_PutVar.l0,show (1:Int)<2 by decide,if_true,show wrap64 (0+1)=1 by decide +kernel,show wrap64 (2*1)=2 by decide +kernel]
    exact (show wrap64 (64*1)%256=vmark 2 by decide +kernel) ▸ e0 1
  · refine Ev.step (fun k=>rfl) ?_
    simp only [spec_PutVar.l0,show (1:Int)<4 by decide,if_true,show wrap64 (0+1)=1 by decide +kernel,show wrap64 (2*1)=2 by decide +kernel]
    refine Ev.step (fun k=>rfl) ?_
    simp only [spec_PutVar.l0,show (2:Int)<4 by decide,if_true,show wrap64 (1+1)=2 by decide +kernel,show wrap64 (2*2)=4 by decide +kernel]
    exact (show wrap64 (64*2)%256=vmark 4 by decide +kernel) ▸ e0 2
  · refine Ev.step (fun k=>rfl) ?_
    simp only [spec_PutVar.l0,show (1:Int)<8 by decide,if_true,show wrap64 (0+1)=1 by decide +kernel,show wrap64 (2*1)=2 by decide +kernel]
    refine Ev.step (fun k=>rfl) ?_
    simp only [spec_PutVar.l0,show (2:Int)<8 by decide,if_true,show wrap64 (1+1)=2 by decide +kernel,show wrap64 (2*2)=4 by decide +kernel]
    refine Ev.step (fun k=>rfl) ?_
    simp only [spec_PutVar.l0,show (4:Int)<8 by decide,if_true,show wrap64 (2+1)=3 by decide +kernel,show wrap64 (2*4)=8 by decide +kernel]
    exact (show wrap64 (64*3)%256=vmark 8 by decide +kernel) ▸ e0 3
theorem specPutVar_ev (v:Int) (h0:0≤v) (h1:v≤4611686018427387903):Ev (fun k=>spec_PutVar.f k v) (pv v,0):=by
  have hv:=vl_cases v h1
  have ht:=top_small v h0 h1
  have hm:=vmark_vl v h1
  simp only [spec_PutVar.f]
  refine Ev.bind (specVarLen_ev v h0 h1) ?_
  simp only [show ¬ ((vl v:Int)=0) by omega,if_false]
  refine Ev.bind (digits_ev (vl v) v (by omega) h0 (by omega)) ?_
  refine Ev_cast (put_loop (dg v (vl v)) (by rw [dg_length];omega) (vl v) (by omega)) ?_
  rw [dg_vl v h1]
  have e:rd ((v / 256 ^ (vl v - 1)%256) :: dg v (vl v - 1)) 0=v / 256 ^ (vl v - 1)%256:=rfl
  rw [e,Int.emod_eq_of_lt (a:=v / 256 ^ (vl v - 1)%256+vmark (vl v)) (by omega) (by omega)]
  rfl
theorem specPutVar_bad (v:Int) (h:v<0∨v>4611686018427387903):Ev (fun k=>spec_PutVar.f k v) ([],1):=by
  simp only [spec_PutVar.f]
  refine Ev.bind (specVarLen_bad v h) ?_
  simp only [if_true]
  exact Ev.now _
theorem szHeader_ev (f v:Int) (a b c:List Int) (n q p:Int) (z:Int) (h0:0≤z) (h1:z≤1048576) (ha:a.length≤maxLen) (hb:b.length≤maxLen) (hc:c.length≤maxLen):∃ t,laws_szHeader.f f v a b c n q p z=some t∧(t<0∨(a.length≤1048576∧b.length≤1048576∧c.length≤1048576)):=by
  unfold maxLen at ha hb hc
  have m1:(-1:Int)<0:=by decide
  rcases szB a z (by omega) (by omega) (by omega) with ⟨e1,h1⟩|⟨e1,h1⟩
  · exact ⟨-1,by simp only [laws_szHeader.f,e1,Option.bind_some,m1,if_true], .inl m1⟩
  rcases szB b (z - a.length) (by omega) (by omega) (by omega) with ⟨e2,h2⟩|⟨e2,h2⟩
  · exact ⟨-1,by simp only [laws_szHeader.f,e1,e2,Option.bind_some,show ¬ (z - (a.length:Int)<0) by omega,m1,if_true,if_false], .inl m1⟩
  rcases szB c (z - a.length - b.length) (by omega) (by omega) (by omega) with ⟨e3,h3⟩|⟨e3,h3⟩
  · exact ⟨-1,by simp only [laws_szHeader.f,e1,e2,e3,Option.bind_some,show ¬ (z - (a.length:Int)<0) by omega,show ¬ (z - (a.length:Int) - (b.length:Int)<0) by omega,m1,if_true,if_false], .inl m1⟩
  · exact ⟨z - a.length - b.length - c.length,by simp only [laws_szHeader.f,e1,e2,e3,Option.bind_some,show ¬ (z - (a.length:Int)<0) by omega,show ¬ (z - (a.length:Int) - (b.length:Int)<0) by omega,show ¬ (z - (a.length:Int) - (b.length:Int) - (c.length:Int)<0) by omega,if_false], .inr ⟨by omega,by omega,by omega⟩⟩
theorem toHeader_ev (f v:Int) (a b c:List Int) (n q p:Int) (ha:a.length≤1048576) (hb:b.length≤1048576) (hc:c.length≤1048576):Ev (fun k=>laws_toHeader.f k f v a b c n q p) (f,v,a,b,c,n,q,p):=by
  simp only [laws_toHeader.f]
  refine Ev.bind (toByteS_ev _ (by omega)) ?_
  refine Ev.bind (toByteS_ev _ (by omega)) ?_
  refine Ev.bind (toByteS_ev _ (by omega)) ?_
  exact Ev.now _
theorem eqHeader_ev (f v:Int) (a b c:List Int) (n q p:Int) (ha:a.length≤1048576) (hb:b.length≤1048576) (hc:c.length≤1048576):Ev (fun k=>laws_eqHeader.f k f v a b c n q p f v a b c n q p) true:=by
  simp only [laws_eqHeader.f,if_true]
  refine Ev.bind (eqByteS_ev _ (by omega)) ?_
  simp only [if_true]
  refine Ev.bind (eqByteS_ev _ (by omega)) ?_
  simp only [if_true]
  refine Ev.bind (eqByteS_ev _ (by omega)) ?_
  simp only [if_true]
  exact Ev.now _
theorem markHeader_ev (f v:Int) (a b c:List Int) (n q p:Int) (m:Int) (hm:0≤m) (hm1:m≤4294967296) (ha:a.length≤1048576) (hb:b.length≤1048576) (hc:c.length≤1048576) :
    Ev (fun k=>laws_markHeader.f k f v a b c n q p m) (m+a.length+b.length+c.length,marks m a.length,marks (m+a.length) b.length,marks (m+a.length+b.length) c.length):=by
  simp only [laws_markHeader.f]
  refine Ev.bind (markByteS_ev _ _ (by omega) (by omega)) ?_
  refine Ev.bind (markByteS_ev _ _ (by omega) (by omega)) ?_
  refine Ev.bind (markByteS_ev _ _ (by omega) (by omega)) ?_
  exact Ev.now _
theorem vSpec (a:Int):spec_l04VersionOK.f a=some (decide (1≤a∧a≤4294967295)):=by
  unfold spec_l04VersionOK.f
  by_cases h:a≥1
  · rw [if_pos h];exact congrArg some (by rw [decide_eq_decide];omega)
  · rw [if_neg h];exact congrArg some (decide_eq_false (by omega)).symm
theorem vImpl (a:Int):impl_versionOK.f a=some (decide (1≤a∧a≤4294967295)):=by
  unfold impl_versionOK.f
  by_cases h:a≥1
  · rw [if_pos h];exact congrArg some (by rw [decide_eq_decide];omega)
  · rw [if_neg h];exact congrArg some (decide_eq_false (by omega)).symm
theorem power_ev {n:Int} (h0:0≤n) (h1:n≤7):Ev (fun k=>spec_l01Power.f k n) (256 ^ n.toNat):=by
  have h:n=0∨n=1∨n=2∨n=3∨n=4∨n=5∨n=6∨n=7:=by omega
  rcases h with rfl|rfl|rfl|rfl|rfl|rfl|rfl|rfl <;> exact Ev.of (spec_l01Power.mono _) (k:=9) (by decide +kernel)
def cut (v:Int) (n:Nat):Int:=v%256 ^ n
theorem cut_range (v:Int) (n:Nat) (hn:n≤4):0≤cut v n∧cut v n≤4294967295:=by
  unfold cut
  have h:n=0∨n=1∨n=2∨n=3∨n=4:=by omega
  rcases h with rfl|rfl|rfl|rfl|rfl <;> omega
theorem sCut_ev (v:Int) (n:Nat) (h0:0≤v) (h1:v≤4611686018427387903) (n1:1≤n) (n4:n≤4):Ev (fun k=>spec_CutNum.f k v (n:Int)) (cut v n):=by
  simp only [spec_CutNum.f,show ¬ v<0 by omega,show ¬ v>4611686018427387903 by omega,show ¬ (n:Int)<1 by omega,show ¬ (n:Int)>4 by omega,if_false]
  refine Ev.bind (power_ev (by omega) (by omega)) ?_
  rw [tmod_nn (by omega),Int.toNat_natCast]
  refine Ev_ite (fun c=>?_) (fun c=>Ev.now _)
  have:(0:Int)<256 ^ n:=Int.pow_pos (by decide)
  omega
theorem iCutI (v a:Int) (h0:0≤v) (h1:v≤4611686018427387903) (a1:1≤a) (a4:a≤4):(if 0≤wrap64 (8*a) then some (Go.bits .and .i64 v (wrap64 (shl .i64 1 (wrap64 (8*a)) - 1))) else none)=some (v%256 ^ a.toNat):=by
  have h:a=1∨a=2∨a=3∨a=4:=by omega
  rcases h with rfl|rfl|rfl|rfl
  · rw [show wrap64 (8*1)=8 by decide +kernel,if_pos (by decide),show wrap64 (shl .i64 1 8 - 1)=2 ^ 8 - 1 by decide +kernel,i64_mask v 8 (by decide) (by omega) (by omega),show (256:Int) ^ Int.toNat 1=2 ^ 8 by decide +kernel]
  · rw [show wrap64 (8*2)=16 by decide +kernel,if_pos (by decide),show wrap64 (shl .i64 1 16 - 1)=2 ^ 16 - 1 by decide +kernel,i64_mask v 16 (by decide) (by omega) (by omega),show (256:Int) ^ Int.toNat 2=2 ^ 16 by decide +kernel]
  · rw [show wrap64 (8*3)=24 by decide +kernel,if_pos (by decide),show wrap64 (shl .i64 1 24 - 1)=2 ^ 24 - 1 by decide +kernel,i64_mask v 24 (by decide) (by omega) (by omega),show (256:Int) ^ Int.toNat 3=2 ^ 24 by decide +kernel]
  · rw [show wrap64 (8*4)=32 by decide +kernel,if_pos (by decide),show wrap64 (shl .i64 1 32 - 1)=2 ^ 32 - 1 by decide +kernel,i64_mask v 32 (by decide) (by omega) (by omega),show (256:Int) ^ Int.toNat 4=2 ^ 32 by decide +kernel]
theorem iCut (v:Int) (n:Nat) (h0:0≤v) (h1:v≤4611686018427387903) (n1:1≤n) (n4:n≤4):impl_CutNum.f v (n:Int)=some (cut v n):=by
  have H:=iCutI v (n:Int) h0 h1 (by omega) (by omega)
  rw [Int.toNat_natCast] at H
  have e:impl_inVar.f v=some true:=by
    unfold impl_inVar.f
    rw [if_pos (show v≥0 by omega),decide_eq_true h1]
  unfold impl_CutNum.f cut
  rw [e]
  simp only [Option.bind_some,if_true]
  rw [if_neg (show ¬ (n:Int)<1 by omega),if_neg (show ¬ (n:Int)>4 by omega)]
  exact H
theorem some_ite (c:Prop) [Decidable c] (a b:Bool):(if c then some a else some b)=some (if c then a else b):=by split <;> rfl
def hkB (f v:Int) (s t:List Int) (p:Int):Bool:=
  if f=1 then (if decide (1≤v∧v≤4294967295)=true then (if (s.length:Int)≤8 then (if (t.length:Int)≤64 then (p == 0) else false) else false) else false)
  else (if f=2 then (if decide (1≤v∧v≤4294967295)=true then (if (s.length:Int)≤8 then (if (t.length:Int)=0 then (p == 0) else false) else false) else false)
  else (if f=4 then (if v=0 then (if (s.length:Int)=0 then (if (t.length:Int)=0 then (if p=0 then true else (p == 1)) else false) else false) else false) else false))
theorem hkB_facts {f v:Int} {s t:List Int} {p:Int} (h:hkB f v s t p=true) :
    (f=1∧1≤v∧v≤4294967295∧s.length≤8∧t.length≤64∧p=0)∨(f=2∧1≤v∧v≤4294967295∧s.length≤8∧t.length=0∧p=0)∨(f=4∧v=0∧s.length=0∧t.length=0∧(p=0∨p=1)):=by
  unfold hkB at h
  by_cases f1:f=1
  · rw [if_pos f1] at h
    by_cases c1:decide (1≤v∧v≤4294967295)=true
    · by_cases c2:(s.length:Int)≤8
      · by_cases c3:(t.length:Int)≤64
        · rw [if_pos c1,if_pos c2,if_pos c3,beq_iff_eq] at h
          have:=of_decide_eq_true c1
          exact .inl ⟨f1,this.1,this.2,by omega,by omega,h⟩
        · rw [if_pos c1,if_pos c2,if_neg c3] at h;cases h
      · rw [if_pos c1,if_neg c2] at h;cases h
    · rw [if_neg c1] at h;cases h
  rw [if_neg f1] at h
  by_cases f2:f=2
  · rw [if_pos f2] at h
    by_cases c1:decide (1≤v∧v≤4294967295)=true
    · by_cases c2:(s.length:Int)≤8
      · by_cases c3:(t.length:Int)=0
        · rw [if_pos c1,if_pos c2,if_pos c3,beq_iff_eq] at h
          have:=of_decide_eq_true c1
          exact .inr (.inl ⟨f2,this.1,this.2,by omega,by omega,h⟩)
        · rw [if_pos c1,if_pos c2,if_neg c3] at h;cases h
      · rw [if_pos c1,if_neg c2] at h;cases h
    · rw [if_neg c1] at h;cases h
  rw [if_neg f2] at h
  by_cases f4:f=4
  · rw [if_pos f4] at h
    by_cases c1:v=0
    · by_cases c2:(s.length:Int)=0
      · by_cases c3:(t.length:Int)=0
        · rw [if_pos c1,if_pos c2,if_pos c3] at h
          by_cases c4:p=0
          · exact .inr (.inr ⟨f4,c1,by omega,by omega, .inl c4⟩)
          · rw [if_neg c4,beq_iff_eq] at h
            exact .inr (.inr ⟨f4,c1,by omega,by omega, .inr h⟩)
        · rw [if_pos c1,if_pos c2,if_neg c3] at h;cases h
      · rw [if_pos c1,if_neg c2] at h;cases h
    · rw [if_neg c1] at h;cases h
  · rw [if_neg f4] at h;cases h
theorem hdrOK (f v:Int) (d s t:List Int) (n q p:Int):∃ b,Ev (fun k=>spec_l04HeaderOK.f k f v d s t n q p) b∧Ev (fun k=>impl_headerOK.f k f v d s t n q p) b∧
    (b=true→(0≤n∧n≤4611686018427387903∧1≤q∧q≤4∧d.length≤8)∧((f=1∧1≤v∧v≤4294967295∧s.length≤8∧t.length≤64∧p=0)∨(f=2∧1≤v∧v≤4294967295∧s.length≤8∧t.length=0∧p=0)∨(f=4∧v=0∧s.length=0∧t.length=0∧(p=0∨p=1)))):=by
  have sT:Ev (fun k=>spec_l04HeaderOK.j0 k true f v d s t n q p) false:=Ev.step (f:=fun _=>some false) (fun k=>by simp only [spec_l04HeaderOK.j0,if_true]) (Ev.now _)
  have iT:Ev (fun k=>impl_headerOK.j0 k true f v d s t n q p) false:=Ev.step (f:=fun _=>some false) (fun k=>by simp only [impl_headerOK.j0,if_true]) (Ev.now _)
  have sF:Ev (fun k=>spec_l04HeaderOK.j0 k false f v d s t n q p) (hkB f v s t p):=Ev.step (f:=fun _=>some (hkB f v s t p)) (fun k=>by simp only [spec_l04HeaderOK.j0,Bool.false_eq_true,if_false,vSpec,Option.bind_some,some_ite];rfl) (Ev.now _)
  have iF:Ev (fun k=>impl_headerOK.j0 k false f v d s t n q p) (hkB f v s t p):=Ev.step (f:=fun _=>some (hkB f v s t p)) (fun k=>by simp only [impl_headerOK.j0,Bool.false_eq_true,if_false,vImpl,Option.bind_some,some_ite];rfl) (Ev.now _)
  simp only [spec_l04HeaderOK.f,impl_headerOK.f,impl_inVar.f]
  by_cases c1:n<0
  · simp only [c1,show ¬ n≥0 by omega,if_true,if_false,Option.bind_some,Bool.false_eq_true];exact ⟨false,sT,iT,fun h=>by cases h⟩
  by_cases c2:n>4611686018427387903
  · simp only [c1,c2,show n≥0 by omega,show ¬ n≤4611686018427387903 by omega,decide_false,if_true,if_false,Option.bind_some,Bool.false_eq_true];exact ⟨false,sT,iT,fun h=>by cases h⟩
  by_cases c3:q<1
  · simp only [c1,c2,c3,show n≥0 by omega,show n≤4611686018427387903 by omega,decide_true,if_true,if_false,Option.bind_some];exact ⟨false,sT,iT,fun h=>by cases h⟩
  by_cases c4:q>4
  · simp only [c1,c2,c3,c4,show n≥0 by omega,show n≤4611686018427387903 by omega,decide_true,if_true,if_false,Option.bind_some];exact ⟨false,sT,iT,fun h=>by cases h⟩
  by_cases c5:(d.length:Int)>8
  · simp only [c1,c2,c3,c4,c5,show n≥0 by omega,show n≤4611686018427387903 by omega,decide_true,if_true,if_false,Option.bind_some];exact ⟨false,sT,iT,fun h=>by cases h⟩
  · simp only [c1,c2,c3,c4,c5,show n≥0 by omega,show n≤4611686018427387903 by omega,decide_true,decide_false,if_true,if_false,Option.bind_some]
    have c3' :1≤q:=by omega
    have c4' :q≤4:=by omega
    exact ⟨_,sF,iF,fun h=>⟨⟨by first|trivial|omega,by first|trivial|omega,by first|trivial|omega,by first|trivial|omega,by first|trivial|omega⟩,hkB_facts h⟩⟩
theorem or64 (x:Int) (h0:0≤x) (h1:x<64):Go.bits .or .i64 64 x=64+x:=
  bits_join .i64 63 (by decide) wraps_i64 6 64 x (by omega) (by decide) (by decide) h0 (by omega) (by omega)
theorem dg2 (v:Int):dg v 2 = [v / 256%256,v%256]:=by simp [dg]
theorem addCounted_ev (l m:List Int) (hl:l.length≤1048576) (hm:m.length≤1048576):Ev (fun k=>impl_addCounted.f k l m) (l ++ pv (m.length:Int) ++ m):=by
  have hp:=pv_len (m.length:Int) (by omega)
  simp only [impl_addCounted.f]
  refine Ev.bind (addVar_ev l _ (by omega) (by omega) (by omega)) ?_
  rw [if_pos (by rw [List.length_append];omega)]
  exact Ev.now _
def hb (f v:Int) (d s t:List Int) (n:Int) (q:Nat) (p a:Int):List Int:=
  if f=4 then [((64:Int)+4*p+(q:Int) - 1)%256] ++ d ++ dg (cut n q) q
  else ([((192:Int)+(if f=2 then (32:Int) else 0)+(q:Int) - 1)%256] ++ dg v 4 ++ [(d.length:Int)%256] ++ d ++ [(s.length:Int)%256] ++ s) ++ (if f=1 then pv (t.length:Int) ++ t else []) ++ dg (16384+a+q) 2 ++ dg (cut n q) q
theorem headBytes_ev (f v:Int) (d s t:List Int) (n:Int) (q:Nat) (p a:Int) (F:(0≤n∧n≤4611686018427387903∧1≤(q:Int)∧(q:Int)≤4∧d.length≤8)∧((f=1∧1≤v∧v≤4294967295∧s.length≤8∧t.length≤64∧p=0)∨(f=2∧1≤v∧v≤4294967295∧s.length≤8∧t.length=0∧p=0)∨(f=4∧v=0∧s.length=0∧t.length=0∧(p=0∨p=1)))) (h8:8≤a) (h1508:a≤1508) :
    Ev (fun k=>impl_headBytes.f k f v d s t n q p a) (hb f v d s t n q p a)∧(hb f v d s t n q p a).length≤200:=by
  obtain ⟨⟨n0,n1,q1,q4,hd⟩,G⟩:=F
  have hc:=cut_range n q (by omega)
  have hp:=pv_len (t.length:Int) (by omega)
  have e2:dg (16384+a+q) 2 = [(Go.bits .or .i64 64 ((q+a) / 256))%256,(q+a)%256]:=by
    rw [dg2,or64 _ (by omega) (by omega),show (16384+a+(q:Int)) / 256%256=(64+((q:Int)+a) / 256)%256 by omega,show (16384+a+(q:Int))%256=((q:Int)+a)%256 by omega]
  rcases G with ⟨rfl,v1,v2,hs,ht,rfl⟩|⟨rfl,v1,v2,hs,ht,rfl⟩|⟨rfl,rfl,hs,ht,hp01⟩
  · refine ⟨?_,by simp [hb,dg_length];omega⟩
    simp only [impl_headBytes.f,show ¬ ((1:Int)=4) by decide,show ¬ ((1:Int)=2) by decide,if_false]
    refine Ev.step (fun k=>rfl) ?_
    simp only [impl_headBytes.j0,show wrap64 (16*0)=0 by decide +kernel,show wrap64 (192+0)=192 by decide +kernel,w64 (x:=192+(q:Int)) (by omega) (by omega),w64 (x:=192+(q:Int) - 1) (by omega) (by omega),w64 (x:=(q:Int)+a) (by omega) (by omega),if_true,Option.bind_some,iCut n q n0 n1 (by omega) (by omega)]
    refine Ev.bind (longBegin_ev _ v d s (by omega) (by omega) (by omega) (by omega)) ?_
    refine Ev.bind (addCounted_ev _ t (by simp [dg_length];omega) (by omega)) ?_
    refine Ev_ite (fun _=>?_) (fun c=>absurd (by simp [dg_length];omega) c)
    refine Ev.bind (fixed_ev _ q _ (by omega) (by omega) (by omega) (by simp [dg_length];omega)) ?_
    refine Ev_now ?_
    simp only [hb,e2,show ¬ ((1:Int)=4) by decide,show ¬ ((1:Int)=2) by decide,if_true,if_false,Int.add_zero,List.append_assoc]
  · refine ⟨?_,by simp [hb,dg_length];omega⟩
    simp only [impl_headBytes.f,show ¬ ((2:Int)=4) by decide,if_true,if_false]
    refine Ev.step (fun k=>rfl) ?_
    simp only [impl_headBytes.j0,show wrap64 (16*2)=32 by decide +kernel,show wrap64 (192+32)=224 by decide +kernel,w64 (x:=224+(q:Int)) (by omega) (by omega),w64 (x:=224+(q:Int) - 1) (by omega) (by omega),w64 (x:=(q:Int)+a) (by omega) (by omega),show ¬ ((2:Int)=1) by decide,if_false,Option.bind_some,iCut n q n0 n1 (by omega) (by omega)]
    refine Ev.bind (longBegin_ev _ v d s (by omega) (by omega) (by omega) (by omega)) ?_
    refine Ev_ite (fun _=>?_) (fun c=>absurd (by simp [dg_length];omega) c)
    refine Ev.bind (fixed_ev _ q _ (by omega) (by omega) (by omega) (by simp [dg_length];omega)) ?_
    refine Ev_now ?_
    simp only [hb,e2,show ¬ ((2:Int)=4) by decide,show ¬ ((2:Int)=1) by decide,if_true,if_false,List.append_assoc,List.nil_append,show (192:Int)+32=224 by decide]
  · refine ⟨?_,by simp [hb,dg_length];omega⟩
    simp only [impl_headBytes.f,if_true,w64 (x:=4*p) (by omega) (by omega),w64 (x:=64+4*p) (by omega) (by omega),w64 (x:=64+4*p+(q:Int)) (by omega) (by omega),w64 (x:=64+4*p+(q:Int) - 1) (by omega) (by omega),Option.bind_some,iCut n q n0 n1 (by omega) (by omega)]
    refine Ev_ite (fun _=>?_) (fun c=>absurd (by simp;omega) c)
    refine Ev.bind (fixed_ev _ q _ (by omega) (by omega) (by omega) (by simp;omega)) ?_
    refine Ev_now ?_
    simp only [hb,if_true,List.append_assoc]
theorem sHeadBytes_ev (f v:Int) (d s t:List Int) (n:Int) (q:Nat) (p a:Int) (F:(0≤n∧n≤4611686018427387903∧1≤(q:Int)∧(q:Int)≤4∧d.length≤8)∧((f=1∧1≤v∧v≤4294967295∧s.length≤8∧t.length≤64∧p=0)∨(f=2∧1≤v∧v≤4294967295∧s.length≤8∧t.length=0∧p=0)∨(f=4∧v=0∧s.length=0∧t.length=0∧(p=0∨p=1)))) (h8:8≤a) (h1508:a≤1508) :
    Ev (fun k=>spec_HeadBytes.j0 k a false f v d s t n q p) (hb f v d s t n q p a,0):=by
  obtain ⟨⟨n0,n1,q1,q4,hd⟩,G⟩:=F
  have hc:=cut_range n q (by omega)
  have hp:=pv_len (t.length:Int) (by omega)
  refine Ev.step (fun k=>rfl) ?_
  simp only [spec_HeadBytes.j0,Bool.false_eq_true,if_false,Option.bind_some]
  rcases G with ⟨rfl,v1,v2,hs,ht,rfl⟩|⟨rfl,v1,v2,hs,ht,rfl⟩|⟨rfl,rfl,hs,ht,hp01⟩
  · simp only [show ¬ ((1:Int)=4) by decide,show ¬ ((1:Int)=2) by decide,if_false]
    refine Ev.step (fun k=>rfl) ?_
    simp only [spec_HeadBytes.j1,show wrap64 (16*0)=0 by decide +kernel,show wrap64 (192+0)=192 by decide +kernel,w64 (x:=192+(q:Int)) (by omega) (by omega),w64 (x:=192+(q:Int) - 1) (by omega) (by omega),w64 (x:=16384+a) (by omega) (by omega),w64 (x:=16384+a+(q:Int)) (by omega) (by omega),if_true,Option.bind_some,List.length_nil,show 0<140737488355328 by decide,List.nil_append]
    refine Ev.bind (l04Ids_ev v d s (by omega) (by omega) (by omega) (by omega)) ?_
    refine Ev_ite (fun _=>?_) (fun c=>absurd (by simp [dg_length];omega) c)
    refine Ev.bind (specPutVar_ev _ (by omega) (by omega)) ?_
    refine Ev_ite (fun _=>?_) (fun c=>absurd (by simp [dg_length];omega) c)
    refine Ev_ite (fun _=>?_) (fun c=>absurd (by simp [dg_length];omega) c)
    refine Ev.bind (digits_ev 2 _ (by omega) (by omega) (by omega)) ?_
    refine Ev_ite (fun _=>?_) (fun c=>absurd (by simp [dg_length];omega) c)
    refine Ev.bind (sCut_ev n q n0 n1 (by omega) (by omega)) ?_
    refine Ev.bind (digits_ev q _ (by omega) (by omega) (by omega)) ?_
    refine Ev_ite (fun _=>?_) (fun c=>absurd (by simp [dg_length];omega) c)
    refine Ev_now ?_
    simp only [hb,show ¬ ((1:Int)=4) by decide,show ¬ ((1:Int)=2) by decide,if_true,if_false,Int.add_zero,List.append_assoc]
  · simp only [show ¬ ((2:Int)=4) by decide,if_true,if_false]
    refine Ev.step (fun k=>rfl) ?_
    simp only [spec_HeadBytes.j1,show wrap64 (16*2)=32 by decide +kernel,show wrap64 (192+32)=224 by decide +kernel,w64 (x:=224+(q:Int)) (by omega) (by omega),w64 (x:=224+(q:Int) - 1) (by omega) (by omega),w64 (x:=16384+a) (by omega) (by omega),w64 (x:=16384+a+(q:Int)) (by omega) (by omega),show ¬ ((2:Int)=1) by decide,if_true,if_false,Option.bind_some,List.length_nil,show 0<140737488355328 by decide,List.nil_append]
    refine Ev.bind (l04Ids_ev v d s (by omega) (by omega) (by omega) (by omega)) ?_
    refine Ev_ite (fun _=>?_) (fun c=>absurd (by simp [dg_length];omega) c)
    refine Ev.bind (digits_ev 2 _ (by omega) (by omega) (by omega)) ?_
    refine Ev_ite (fun _=>?_) (fun c=>absurd (by simp [dg_length];omega) c)
    refine Ev.bind (sCut_ev n q n0 n1 (by omega) (by omega)) ?_
    refine Ev.bind (digits_ev q _ (by omega) (by omega) (by omega)) ?_
    refine Ev_ite (fun _=>?_) (fun c=>absurd (by simp [dg_length];omega) c)
    refine Ev_now ?_
    simp only [hb,show ¬ ((2:Int)=4) by decide,show ¬ ((2:Int)=1) by decide,if_true,if_false,List.append_assoc,List.nil_append,show (192:Int)+32=224 by decide]
  · simp only [if_true,List.length_nil,show 0<140737488355328 by decide,List.nil_append,w64 (x:=4*p) (by omega) (by omega),w64 (x:=64+4*p) (by omega) (by omega),w64 (x:=64+4*p+(q:Int)) (by omega) (by omega),w64 (x:=64+4*p+(q:Int) - 1) (by omega) (by omega),Option.bind_some]
    refine Ev_ite (fun _=>?_) (fun c=>absurd (by simp;omega) c)
    refine Ev.bind (sCut_ev n q n0 n1 (by omega) (by omega)) ?_
    refine Ev.bind (digits_ev q _ (by omega) (by omega) (by omega)) ?_
    refine Ev_ite (fun _=>?_) (fun c=>absurd (by simp [dg_length];omega) c)
    refine Ev_now ?_
    simp only [hb,if_true,List.append_assoc]
theorem sCopy (l:List Int) (h:l.length≤4194304):spec_l03Copy.f l=some l:=by
  simp only [spec_l03Copy.f,Option.bind_some,List.length_nil,Nat.zero_add,List.nil_append]
  rw [if_pos (by omega)]
theorem mask_ev (a b c d s:List Int) (ha:a.length=16) (hb:b.length=16) (hc:c.length=8) (hd:d.length=16) (hs:s.length=8):Ev (fun k=>spec_HeadMask.f k a b c d s) ((dgst d s).take 5)∧Ev (fun k=>impl_HeadMask.f k a b c d s) ((dgst d s).take 5):=by
  have h1:(a.length:Int)=16:=by omega
  have h2:(b.length:Int)=16:=by omega
  have h3:(c.length:Int)=8:=by omega
  have h4:(d.length:Int)=16:=by omega
  have h5:(s.length:Int)=8:=by omega
  simp only [spec_HeadMask.f,impl_HeadMask.f,spec_l03KeysOK.f,impl_keysOK.f,h1,h2,h3,h4,h5,if_true,Option.bind_some,BEq.rfl,bne_self_eq_false]
  refine ⟨?_,?_⟩
  · refine Ev.step (fun k=>rfl) ?_
    simp only [spec_HeadMask.j0,Bool.false_eq_true,if_false]
    refine Ev.bind (sDigest_ev d s (by omega) (by omega)) ?_
    simp only [dgst_length,show (5:Int)≤((16:Nat):Int) by decide,if_true,sCopy ((dgst d s).take 5) (by simp [dgst_length]),Option.bind_some]
    exact Ev.now _
  · refine Ev.bind (iDigest_ev d s (by omega) (by omega)) ?_
    simp only [dgst_length,show (5:Int)≤((16:Nat):Int) by decide,if_true,Option.bind_some,List.length_nil,List.nil_append,Nat.zero_add]
    exact Ev_ite (fun _=>Ev.now _) (fun c=>absurd (by simp [dgst_length]) c)
theorem rd_app (X S:List Int) (i:Nat) (h:i<X.length):rd (X ++ S) (i:Int)=rd X (i:Int):=rd_some (by rw [List.getElem?_append_left h];exact rd_get X h)
theorem maskLoop (S m:List Int) (q L:Nat) (hm:m.length=5) (hq:q≤4) (hL:L≤1000000) (hqL:q≤L) (f v n p:Int) (d s t:List Int) (j:Nat):∀ (X:List Int) (i:Nat),q - i=j→i≤q→X.length=L→
    ∃ Y,Y.length=L∧Ev (fun k=>spec_ProtectPacket.l0 k m ((L - q:Nat):Int) (X ++ S) (i:Int) f v d s t n (q:Int) p) (Y ++ S,0)∧Ev (fun k=>impl_masked.l0 k X m ((L - q:Nat):Int) (q:Int) (i:Int)) Y:=by
  induction j with
  |zero=>
    intro X i hj hi hX
    exact ⟨X,hX,Ev.step (f:=fun _=>some (X ++ S,0)) (fun k=>by simp only [spec_ProtectPacket.l0,show ¬ ((i:Int)<(q:Int)) by omega,if_false]) (Ev.now _),Ev.step (f:=fun _=>some X) (fun k=>by simp only [impl_masked.l0,show ¬ ((i:Int)<(q:Int)) by omega,if_false]) (Ev.now _)⟩
  |succ j ih=>
    intro X i hj hi hX
    have w1:wrap64 (((L - q:Nat):Int)+(i:Int))=((L - q+i:Nat):Int):=by rw [w64 (by omega) (by omega)];omega
    have w2:wrap64 (1+(i:Int))=((1+i:Nat):Int):=by rw [w64 (by omega) (by omega)];omega
    obtain ⟨Y,hY,e1,e2⟩:=ih (X.set (L - q+i) (Go.bits .xor .u8 (rd X ((L - q+i:Nat):Int)) (rd m ((1+i:Nat):Int)))) (i+1) (by omega) (by omega) (by rw [List.length_set];exact hX)
    refine ⟨Y,hY,?_,?_⟩
    · refine Ev.step (fun k=>rfl) ?_
      simp only [spec_ProtectPacket.l0,w1,w2]
      simp only [show ((i:Int)<(q:Int)) by omega,if_true,show (0:Int)≤((L - q+i:Nat):Int) by omega,show ((L - q+i:Nat):Int)<((X ++ S).length:Int) by rw [List.length_append];omega,show (0:Int)≤((1+i:Nat):Int) by omega,show ((1+i:Nat):Int)<(m.length:Int) by omega,Int.toNat_natCast,next64 (show i<4611686018427387904 by omega),rd_app X S (L - q+i) (by omega),List.set_append_left (L - q+i) _ (show L - q+i<X.length by omega)]
      exact e1
    · refine Ev.step (fun k=>rfl) ?_
      simp only [impl_masked.l0,w1,w2]
      simp only [show ((i:Int)<(q:Int)) by omega,if_true,show (0:Int)≤((L - q+i:Nat):Int) by omega,show ((L - q+i:Nat):Int)<(X.length:Int) by omega,show (0:Int)≤((1+i:Nat):Int) by omega,show ((1+i:Nat):Int)<(m.length:Int) by omega,Int.toNat_natCast,next64 (show i<4611686018427387904 by omega)]
      exact e2
theorem hb_len (f v:Int) (d s t:List Int) (n:Int) (q:Nat) (p a:Int):q+1≤(hb f v d s t n q p a).length:=by
  unfold hb
  split <;> simp [dg_length] <;> omega
theorem hb_first (f v:Int) (d s t:List Int) (n:Int) (q:Nat) (p a:Int) (q1:1≤q) (q4:q≤4) (hp:f=4→p=0∨p=1):spec_l04Bits.f (rd (hb f v d s t n q p a) 0)=some (if (f == 4)=true then 31 else 15):=by
  unfold spec_l04Bits.f
  by_cases h:f=4
  · subst h
    have e:rd (hb 4 v d s t n q p a) 0=((64:Int)+4*p+(q:Int) - 1)%256:=by simp [hb,rd]
    rw [e,if_neg (by have:=hp rfl;omega)];rfl
  · have e:rd (hb f v d s t n q p a) 0=((192:Int)+(if f=2 then (32:Int) else 0)+(q:Int) - 1)%256:=by simp [hb,rd,h]
    rw [e,if_pos (by split <;> omega),if_neg (by simpa using h)]
theorem heads (f v:Int) (l s t:List Int) (n:Int) (q:Nat) (p a:Int) (F:(0≤n∧n≤4611686018427387903∧1≤(q:Int)∧(q:Int)≤4∧l.length≤8)∧((f=1∧1≤v∧v≤4294967295∧s.length≤8∧t.length≤64∧p=0)∨(f=2∧1≤v∧v≤4294967295∧s.length≤8∧t.length=0∧p=0)∨(f=4∧v=0∧s.length=0∧t.length=0∧(p=0∨p=1)))) (h8:8≤a) (h1508:a≤1508) (hs1:Ev (fun k=>spec_l04HeaderOK.f k f v l s t n q p) true) :
    ∃ h,Ev (fun k=>spec_HeadBytes.f k f v l s t n q p a) (h,0)∧Ev (fun k=>impl_headBytes.f k f v l s t n q p a) h∧h.length≤200∧q+1≤h.length∧spec_l04Bits.f (rd h 0)=some (if (f == 4)=true then 31 else 15):=by
  obtain ⟨iH,hL⟩:=headBytes_ev f v l s t n q p a F h8 h1508
  refine ⟨_,?_,iH,hL,hb_len f v l s t n q p a,hb_first f v l s t n q p a (by omega) (by omega) (fun h=>by omega)⟩
  simp only [spec_HeadBytes.f]
  exact Ev.bind hs1 (by simp only [show ¬ a<8 by omega,show ¬ a>1508 by omega,if_true,if_false,decide_false];exact sHeadBytes_ev f v l s t n q p a F h8 h1508)
theorem both (a b c d:List Int) (f v:Int) (l s t:List Int) (n q p:Int) (y:List Int) (hy:y.length≤1048576):∃ w e,Ev (fun k=>spec_ProtectPacket.f k a b c d f v l s t n q p y) (w,e)∧Ev (fun k=>impl_ProtectPacket.f k a b c d f v l s t n q p y) (w,e)∧w.length≤4000:=by
  have sT:Ev (fun k=>spec_ProtectPacket.j0 k y true a b c d f v l s t n q p) ([],1):=Ev.step (f:=fun _=>some ([],1)) (fun k=>by simp only [spec_ProtectPacket.j0,if_true]) (Ev.now _)
  have iT:Ev (fun k=>impl_ProtectPacket.j0 k y true a b c d f v l s t n q p) ([],1):=Ev.step (f:=fun _=>some ([],1)) (fun k=>by simp only [impl_ProtectPacket.j0,if_true]) (Ev.now _)
  obtain ⟨z,hs,hi,hl⟩:=keysOK a b c d
  simp only [spec_ProtectPacket.f,impl_ProtectPacket.f,hs,hi,Option.bind_some]
  cases z with
  |false=>simp only [Bool.false_eq_true,if_false];exact ⟨[],1,sT,iT,by simp⟩
  |true=>
    obtain ⟨ha,hb',hc,hd⟩:=hl rfl
    simp only [if_true]
    obtain ⟨z,hs1,hi1,F⟩:=hdrOK f v l s t n q p
    cases z with
    |false=>exact ⟨[],1,Ev.bind hs1 sT,Ev.bind hi1 iT,by simp⟩
    |true=>
      have F:=F rfl
      obtain ⟨m,rfl⟩:∃ m:Nat,q=m:=⟨q.toNat,by omega⟩
      have q1:=F.1.2.2.1
      have q4:=F.1.2.2.2.1
      have wl:Unit→wrap64 ((m:Int)+(y.length:Int))=(m:Int)+(y.length:Int):=fun _=>w64 (by omega) (by omega)
      have S:∀ w e,Ev (fun k=>spec_ProtectPacket.j0 k y false a b c d f v l s t n m p) (w,e)→Ev (fun k=>impl_ProtectPacket.j0 k y false a b c d f v l s t n m p) (w,e)→w.length≤4000→∃ w e,Ev (fun k=>(spec_l04HeaderOK.f k f v l s t n m p).bind fun z=>spec_ProtectPacket.j0 k y (!z) a b c d f v l s t n m p) (w,e)∧Ev (fun k=>(impl_headerOK.f k f v l s t n m p).bind fun z=>impl_ProtectPacket.j0 k y (!z) a b c d f v l s t n m p) (w,e)∧w.length≤4000:=fun w e h1 h2 h3=>⟨w,e,Ev.bind hs1 h1,Ev.bind hi1 h2,h3⟩
      by_cases c1:(m:Int)+(y.length:Int)<4
      · refine S [] 2 (Ev.step (fun k=>rfl) ?_) (Ev.step (fun k=>rfl) ?_) (by simp)
        · simp only [spec_ProtectPacket.j0,Bool.false_eq_true,if_false,wl (),c1,if_true];exact Ev.now _
        · simp only [impl_ProtectPacket.j0,Bool.false_eq_true,if_false,wl (),c1,if_true];exact Ev.now _
      have hy8:8≤mn (y.length:Int) 1500+8∧mn (y.length:Int) 1500+8≤1508:=by rw [mn_le];split <;> omega
      obtain ⟨h,sH,iH,hL,hG,hF⟩:=heads f v l s t n m p (mn (y.length:Int) 1500+8) F hy8.1 hy8.2 hs1
      clear hy8
      have sM:Ev (fun k=>spec_ProtectPacket.j1 k y h true a b c d f v l s t n m p) ([],4):=Ev.step (f:=fun _=>some ([],4)) (fun k=>by simp only [spec_ProtectPacket.j1,if_true]) (Ev.now _)
      have wl2:Unit→wrap64 ((h.length:Int)+(y.length:Int))=(h.length:Int)+(y.length:Int):=fun _=>w64 (by omega) (by omega)
      by_cases c2:(y.length:Int)>1500
      · refine S [] 4 (Ev.step (fun k=>rfl) ?_) (Ev.step (fun k=>rfl) ?_) (by simp)
        · simp only [spec_ProtectPacket.j0,Bool.false_eq_true,if_false,wl (),c1]
          refine Ev.bind sH ?_
          have c4:(h.length:Int)+(y.length:Int)>1500:=by omega
          simp only [if_true,wl2 (),c4,decide_true]
          exact sM
        · simp only [impl_ProtectPacket.j0]
          refine Ev_ite (fun c=>absurd c (by decide)) (fun _=>?_)
          refine Ev_ite (fun c=>absurd (by rw [wl ()] at c;exact c) c1) (fun _=>?_)
          exact Ev_ite (fun _=>Ev.now _) (fun c=>absurd c2 c)
      have em:Unit→mn (y.length:Int) 1500=(y.length:Int):=fun _=>by rw [mn_le,if_neg (by omega)]
      rw [em ()] at sH iH
      have ew:Unit→wrap64 ((y.length:Int)+8)=(y.length:Int)+8:=fun _=>w64 (by omega) (by omega)
      by_cases c3:(h.length:Int)+(y.length:Int)>1500
      · refine S [] 4 (Ev.step (fun k=>rfl) ?_) (Ev.step (fun k=>rfl) ?_) (by simp)
        · simp only [spec_ProtectPacket.j0,Bool.false_eq_true,if_false,wl (),c1,em ()]
          refine Ev.bind sH ?_
          simp only [if_true,wl2 (),c3,decide_true]
          exact sM
        · simp only [impl_ProtectPacket.j0]
          refine Ev_ite (fun c=>absurd c (by decide)) (fun _=>?_)
          refine Ev_ite (fun c=>absurd (by rw [wl ()] at c;exact c) c1) (fun _=>?_)
          refine Ev_ite (fun c=>absurd c c2) (fun _=>?_)
          rw [ew ()]
          refine Ev.bind iH ?_
          refine Ev.bind (a:=([],4)) ?_ ?_
          · simp only [impl_Seal.f,hi,Option.bind_some,iInVar,if_true,decide_eq_true (show 0≤n∧n≤4611686018427387903 by omega),Bool.not_true]
            refine Ev.step (fun k=>rfl) ?_
            simp only [impl_Seal.j0,Bool.false_eq_true,if_false,wl2 (),c3,if_true]
            exact Ev.now _
          · simp only [show ¬ ((4:Int)=0) by decide,if_false];exact Ev.now _
      obtain ⟨w,e,hss,his, -,hfull⟩:=bothSeal a b c d n h y (by omega) (by omega)
      obtain ⟨hw,rfl⟩:=hfull ⟨ha,hb',hc,hd,by omega,by omega,by omega⟩
      have hwl:w.length=y.length+8:=by rw [hw,List.length_append,cst_length,tg_length]
      clear hw hfull
      have u1:Unit→wrap64 (4 - (m:Int))=((4 - m:Nat):Int):=fun _=>by rw [w64 (by omega) (by omega)];omega
      have u2:Unit→wrap64 (12 - (m:Int))=((12 - m:Nat):Int):=fun _=>by rw [w64 (by omega) (by omega)];omega
      have u3:Unit→wrap64 (((4 - m:Nat):Int)+8)=((12 - m:Nat):Int):=fun _=>by rw [w64 (by omega) (by omega)];omega
      have hsl:((w.take (12 - m)).drop (4 - m)).length=8:=by rw [List.length_drop,List.length_take];omega
      obtain ⟨sK,iK⟩:=mask_ev a b c d _ ha hb' hc hd hsl
      have hK:((dgst d ((w.take (12 - m)).drop (4 - m))).take 5).length=5:=by simp [dgst_length]
      generalize (dgst d ((w.take (12 - m)).drop (4 - m))).take 5=K at sK iK hK
      obtain ⟨Y,hY,e1,e2⟩:=maskLoop w K m h.length hK (by omega) (by omega) (by omega) f v n p l s t m (h.set 0 (Go.bits .xor .u8 (rd h 0) (Go.bits .and .u8 (rd K 0) (if (f == 4)=true then 31 else 15)))) 0 (by omega) (by omega) (by rw [List.length_set])
      have u4:Unit→wrap64 ((h.length:Int) - (m:Int))=((h.length - m:Nat):Int):=fun _=>by rw [w64 (by omega) (by omega)];omega
      refine S (Y ++ w) 0 (Ev.step (fun k=>rfl) ?_) (Ev.step (fun k=>rfl) ?_) (by rw [List.length_append];omega)
      · simp only [spec_ProtectPacket.j0,Bool.false_eq_true,if_false,wl (),c1,em ()]
        refine Ev.bind sH ?_
        simp only [if_true,wl2 (),c3,decide_false]
        refine Ev.step (fun k=>rfl) ?_
        simp only [spec_ProtectPacket.j1,Bool.false_eq_true,if_false,u1 (),u2 (),u4 (),Int.toNat_natCast]
        refine Ev.bind hss ?_
        simp only [show (0:Int)≤((4 - m:Nat):Int) by omega,show ((4 - m:Nat):Int)≤((12 - m:Nat):Int) by omega,show ((12 - m:Nat):Int)≤(w.length:Int) by omega,if_true,sCopy h (by omega),Option.bind_some]
        refine Ev.bind sK ?_
        simp only [show h.length+w.length<140737488355328 by omega,show (0:Int)<((h ++ w).length:Int) by rw [List.length_append];omega,show (0:Int)<(K.length:Int) by omega,show (0:Int)<(h.length:Int) by omega,if_true,hF,Option.bind_some]
        rw [show rd (h ++ w) 0=rd h 0 from rd_app h w 0 (by omega),show (0:Int).toNat=0 from rfl,List.set_append_left 0 _ (by omega)]
        exact e1
      · simp only [impl_ProtectPacket.j0]
        refine Ev_ite (fun c=>absurd c (by decide)) (fun _=>?_)
        refine Ev_ite (fun c=>absurd (by rw [wl ()] at c;exact c) c1) (fun _=>?_)
        refine Ev_ite (fun c=>absurd c c2) (fun _=>?_)
        rw [ew ()]
        refine Ev.bind iH ?_
        refine Ev.bind his ?_
        simp only [u1 (),u3 (),Int.toNat_natCast,show (0:Int)≤((4 - m:Nat):Int) by omega,show ((4 - m:Nat):Int)≤((12 - m:Nat):Int) by omega,show ((12 - m:Nat):Int)≤(w.length:Int) by omega,if_true]
        refine Ev.bind iK ?_
        refine Ev.bind (a:=Y) ?_ (Ev_ite (fun _=>Ev.now _) (fun c=>absurd (by omega) c))
        simp only [impl_masked.f,show (0:Int)<(K.length:Int) by omega,show (0:Int)<(h.length:Int) by omega,if_true,show (0:Int).toNat=0 from rfl]
        cases hf:(f == 4) with
        |true=>
          rw [hf] at e2
          simp only [if_true] at e2 ⊢
          refine Ev.step (fun k=>rfl) ?_
          simp only [impl_masked.j0,List.length_set,u4 ()]
          exact e2
        |false=>
          rw [hf] at e2
          simp only [Bool.false_eq_true,if_false] at e2 ⊢
          refine Ev.step (fun k=>rfl) ?_
          simp only [impl_masked.j0,List.length_set,u4 ()]
          exact e2
theorem FnExactProtectPacket (a b c d:List Int) (f v:Int) (l s t:List Int) (n q p:Int) (y:List Int) (qa:a.length≤maxLen∧∀ x∈a,(Lit.int .u8 x).wf=true) (qb:b.length≤maxLen∧∀ x∈b,(Lit.int .u8 x).wf=true) (qc:c.length≤maxLen∧∀ x∈c,(Lit.int .u8 x).wf=true) (qd:d.length≤maxLen∧∀ x∈d,(Lit.int .u8 x).wf=true) (qf:(Lit.int .i64 f).wf=true) (qv:(Lit.int .i64 v).wf=true) (ql:l.length≤maxLen∧∀ x∈l,(Lit.int .u8 x).wf=true) (qs:s.length≤maxLen∧∀ x∈s,(Lit.int .u8 x).wf=true) (qt:t.length≤maxLen∧∀ x∈t,(Lit.int .u8 x).wf=true) (qn:(Lit.int .i64 n).wf=true) (qq:(Lit.int .i64 q).wf=true) (qp:(Lit.int .i64 p).wf=true) (qy:y.length≤maxLen∧∀ x∈y,(Lit.int .u8 x).wf=true):∃ k,laws_FnExactProtectPacket.f k a b c d f v l s t n q p y=some true:=by
  refine Ev.rounds (g:=fun k=>laws_FnExactProtectPacket.f k a b c d f v l s t n q p y) ?_
  simp only [laws_FnExactProtectPacket.f]
  refine Ev_ite (fun _=>Ev.now _) (fun c0=>?_)
  obtain ⟨z,hz,hzl,hz'⟩:=szKeys_ev a b c d qa.1 qb.1 qc.1 qd.1
  simp only [hz,Option.bind_some]
  refine Ev_ite (fun _=>Ev.now _) (fun c1=>?_)
  obtain ⟨za,zb,zc,zd⟩:=hz'.resolve_left c1
  obtain ⟨z2,hz2,hz2'⟩:=szHeader_ev f v l s t n q p z (by omega) hzl ql.1 qs.1 qt.1
  simp only [hz2,Option.bind_some]
  refine Ev_ite (fun _=>Ev.now _) (fun c2=>?_)
  obtain ⟨zl,zs,zt⟩:=hz2'.resolve_left c2
  obtain ⟨w,e,hs,hi,hw⟩:=both a b c d f v l s t n q p y (by omega)
  repeat' first
    |exact Ev.now _
    |refine Ev.bind hs ?_
    |refine Ev.bind hi ?_
    |refine Ev.bind (toKeys_ev a b c d za zb zc zd) ?_
    |refine Ev.bind (eqKeys_ev a b c d za zb zc zd) ?_
    |refine Ev.bind (markKeys_ev a b c d _ (by omega) (by omega) za zb zc zd) ?_
    |refine Ev.bind (toHeader_ev f v l s t n q p zl zs zt) ?_
    |refine Ev.bind (eqHeader_ev f v l s t n q p zl zs zt) ?_
    |refine Ev.bind (markHeader_ev f v l s t n q p _ (by omega) (by omega) zl zs zt) ?_
    |refine Ev.bind (toByteS_ev _ (by omega)) ?_
    |refine Ev.bind (eqByteS_ev _ (by omega)) ?_
    |refine Ev.bind (markByteS_ev _ _ (by omega) (by omega)) ?_
    |refine Ev.bind (heldByteS_ev _ _ (by omega) (by omega)) ?_
    |simp only [if_true,if_false,bne_self_eq_false,Bool.false_eq_true,Bool.not_true,marks_length]
    |(refine Ev.step (fun k=>rfl) ?_;simp only [laws_FnExactProtectPacket.j0,laws_FnExactProtectPacket.j1,laws_FnExactProtectPacket.j2])
    |refine Ev_ite (fun c=>absurd c (by omega)) (fun _=>?_)
end Go.Proofs.Ytcdkbdkanjifeaa.Pure
