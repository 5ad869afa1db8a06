/- Plain lemmas on numbers that several of this seat's proofs share; nothing here speaks of the program. -/
import Derived.Test.YtcdkbdkanjifeaaBMore
import Derived.Laws.BitsLemmas
import Derived.OpenShut
namespace Go.Proofs.Ytcdkbdkanjifeaa.Math
open Go.RowKit Go.Proofs.YtcdkbdkanjifeaaW.PrintWords Go.Proofs.YtcdkbdkanjifeaaW.PrintLast Go.Proofs.YtcdkbdkanjifeaaW.PrintMore
set_option linter.unusedVariables false
theorem w64 {x:Int} (h0: -9223372036854775808≤x) (h1:x≤9223372036854775807):wrap64 x=x:=by unfold wrap64;omega
theorem wraps_i64 (n:Int) (h0:0≤n) (h1:n<2 ^ 63):IntKind.i64.wrap n=n:=by rw [IntKind.wrap_i64];omega
theorem wraps_u64 (n:Int) (h0:0≤n) (h1:n<2 ^ 64):IntKind.u64.wrap n=n:=by simp [IntKind.wrap,IntKind.bits,IntKind.signed];omega
theorem tdiv_nn {a b:Int} (h:0≤a):Int.tdiv a b=a / b:=Int.tdiv_eq_ediv_of_nonneg h
theorem tmod_nn {a b:Int} (h:0≤a):Int.tmod a b=a%b:=Int.tmod_eq_emod_of_nonneg h
theorem i64_mask (x:Int) (i:Nat) (hi:i≤63) (h0:0≤x) (h1:x<2 ^ 63):Go.bits .and .i64 x (2 ^ i - 1)=x%2 ^ i:=
  bits_mask .i64 63 (by decide) wraps_i64 i hi x h0 h1
theorem i64_and1 (x:Int) (h0:0≤x) (h1:x<9223372036854775808):Go.bits .and .i64 x 1=x%2:=by
  have:=i64_mask x 1 (by decide) h0 (by omega)
  simpa using this
theorem i64_and2 (x:Int) (h0:0≤x) (h1:x<9223372036854775808):Go.bits .and .i64 x 2=x / 2%2*2:=by
  obtain ⟨a,rfl⟩:=Int.eq_ofNat_of_zero_le h0
  have:=(bits_nat .i64 63 (by decide) wraps_i64 a 2 (by omega) (by decide)).1
  rw [show (2:Int)=((2:Nat):Int) from rfl,this]
  have h2:(a &&& 2) / 2=a / 2%2:=by rw [Nat.and_div_two];exact Nat.and_one_is_mod _
  have h3:(a &&& 2)%2=0:=by
    have:=@Nat.and_mod_two_pow a 2 1
    simpa using this
  omega
theorem mn_le (a b:Int):mn a b=if b<a then b else a:=rfl
theorem mx_le (a b:Int):mx a b=if a<b then b else a:=rfl
theorem Ev_now {α:Type} {a r:α} (h:a=r):Ev (fun _=>some a) r:=by subst h;exact Ev.now a
theorem Ev_ite {α:Type} {c:Prop} [Decidable c] {A B:Nat→Option α} {r:α} (h:c→Ev A r) (h' : ¬ c→Ev B r):Ev (fun k=>if c then A k else B k) r:=by
  by_cases hc:c
  · simp only [hc,if_true];exact h hc
  · simp only [hc,if_false];exact h' hc
theorem Ev_cast {α:Type} {g:Nat→Option α} {a r:α} (h:Ev g a) (e:a=r):Ev g r:=e ▸ h
theorem prefix_all {α:Type} {x l:List α} (hl:x.length=l.length) (h:∀ j,j<l.length→x[j]? =l[j]?):x=l:=by
  apply List.ext_getElem? 
  intro j
  by_cases hj:j<l.length
  · exact h j hj
  · rw [List.getElem?_eq_none (by omega),List.getElem?_eq_none (by omega)]
theorem set_prefix {α:Type} {x l:List α} {i:Nat} {v:α} (hl:x.length=l.length) (hv:l[i]? =some v) (h:∀ j,j<i→x[j]? =l[j]?):∀ j,j<i+1→(x.set i v)[j]? =l[j]?:=by
  intro j hj
  have hi:i<l.length:=(List.getElem?_eq_some_iff.1 hv).1
  by_cases e:j=i
  · subst e;rw [List.getElem?_set_self (by omega),hv]
  · rw [List.getElem?_set_ne (by omega)];exact h j (by omega)
theorem rd_some {l:List Int} {i:Nat} {v:Int} (h:l[i]? =some v):rd l (i:Int)=v:=by
  unfold rd;rw [Int.toNat_natCast,List.getD_eq_getElem?_getD,h];rfl
theorem rd_get (l:List Int) {i:Nat} (h:i<l.length):l[i]? =some (rd l (i:Int)):=by
  have e:=List.getElem?_eq_getElem h
  rw [rd_some e];exact e
theorem next64 {i:Nat} (h:i<4611686018427387904):wrap64 ((i:Int)+1)=((i+1:Nat):Int):=by rw [w64 (by omega) (by omega)];omega
def marks (m:Int) (n:Nat):List Int:=(List.range n).map fun j:Nat=>(m+(j:Int))%256
theorem marks_length (m:Int) (n:Nat):(marks m n).length=n:=by simp [marks]
theorem marks_get (m:Int) {n i:Nat} (h:i<n):(marks m n)[i]? =some ((m+i)%256):=by simp [marks,h]
def marksI (m:Int) (n:Nat):List Int:=(List.range n).map fun j:Nat=>m+(j:Int)
theorem marksI_length (m:Int) (n:Nat):(marksI m n).length=n:=by simp [marksI]
theorem marksI_get (m:Int) {n i:Nat} (h:i<n):(marksI m n)[i]? =some (m+i):=by simp [marksI,h]
def dg (v:Int):Nat→List Int
  |0=>[]
  |n+1=>(v / 256 ^ n%256) :: dg v n
theorem dg_length (v:Int):∀ n,(dg v n).length=n
  |0=>rfl
  |n+1=>by simp [dg,dg_length v n]
theorem dg_snoc (v:Int) (hv:0≤v):∀ n,dg v (n+1)=dg (v / 256) n ++ [v%256]
  |0=>by simp [dg]
  |n+1=>by
    have h:=dg_snoc v hv n
    show (v / 256 ^ (n+1)%256) :: dg v (n+1)=(v / 256 / 256 ^ n%256) :: dg (v / 256) n ++ [v%256]
    rw [h,Int.ediv_ediv_of_nonneg (by decide),←Int.pow_succ']
    rfl
theorem dg_byte (v:Int) (n:Nat):∀ x∈dg v n,0≤x∧x<256:=by
  induction n with
  |zero=>intro x hx;cases hx
  |succ n ih=>
    intro x hx
    simp only [dg,List.mem_cons] at hx
    rcases hx with rfl|hx
    · omega
    · exact ih x hx
def val (a:Int) (l:List Int):Int:=l.foldl (fun a b=>a*256+b) a
theorem val_nil (a:Int):val a []=a:=rfl
theorem val_cons (a b:Int) (l:List Int):val a (b :: l)=val (a*256+b) l:=rfl
theorem val_snoc (a b:Int) (l:List Int):val a (l ++ [b])=val a l*256+b:=by simp [val]
theorem val_split (l:List Int):∀ a,val a l=a*256 ^ l.length+val 0 l:=by
  induction l with
  |nil=>intro a;simp [val]
  |cons b l ih=>
    intro a
    rw [val_cons,val_cons,ih (a*256+b),ih (0*256+b),List.length_cons,Int.pow_succ',Int.add_mul,Int.add_mul,Int.mul_assoc]
    omega
theorem val_bounds (l:List Int) (h:∀ x∈l,0≤x∧x<256):0≤val 0 l∧val 0 l<256 ^ l.length:=by
  induction l with
  |nil=>simp [val]
  |cons b l ih=>
    have hb:=h b (by simp)
    have hi:=ih (fun x hx=>h x (by simp [hx]))
    rw [val_cons,val_split,List.length_cons,Int.pow_succ']
    have hp:(0:Int)<256 ^ l.length:=Int.pow_pos (by decide)
    generalize (256:Int) ^ l.length=p at *
    have:(0*256+b)*p≤255*p:=Int.mul_le_mul_of_nonneg_right (by omega) (by omega)
    have:0≤(0*256+b)*p:=Int.mul_nonneg (by omega) (by omega)
    omega
theorem wrap64_emod (x:Int):wrap64 (x%18446744073709551616)=wrap64 x:=by unfold wrap64;omega
theorem wrap64_step (y b:Int) (h0:0≤b) (h1:b<256):wrap64 (wrap64 (wrap64 y*256)+wrap64 b)=wrap64 (y*256+b):=by unfold wrap64;omega
theorem u64_step (y b:Int) (h0:0≤b) (h1:b<256):Go.bits .or .u64 (IntKind.u64.wrap (y%18446744073709551616*256)) (IntKind.u64.wrap b)=(y*256+b)%18446744073709551616:=by
  have w:∀ n:Int,IntKind.u64.wrap n=n%18446744073709551616:=fun n=>by simp [IntKind.wrap,IntKind.bits,IntKind.signed]
  rw [w,w,bits_join .u64 64 (by decide) wraps_u64 8 _ _ (by omega) (by omega) (by omega) (by omega) (by omega) (by omega)]
  omega
theorem i64_mask_any (x:Int) (i:Nat) (hi:i≤62):Go.bits .and .i64 (wrap64 x) (2 ^ i - 1)=x%2 ^ i:=by
  have hd:(2:Int) ^ i ∣ 18446744073709551616:=by
    refine ⟨2 ^ (64 - i),?_⟩
    rw [←Int.pow_add,show i+(64 - i)=64 by omega]
    decide
  have hp:(0:Int)<2 ^ i:=Int.pow_pos (by decide)
  have hle:(2:Int) ^ i≤4611686018427387904:=by
    have h:2 ^ i≤2 ^ 62:=Nat.pow_le_pow_right (by decide) hi
    have h' :((2 ^ i:Nat):Int)≤((2 ^ 62:Nat):Int):=by omega
    simpa using h'
  have ha:BitVec.ofInt 64 (wrap64 x)=BitVec.ofInt 64 (x%18446744073709551616):=by
    apply BitVec.eq_of_toInt_eq
    simp only [BitVec.toInt_ofInt]
    unfold wrap64
    rw [Int.bmod_def,Int.bmod_def]
    omega
  obtain ⟨a,ea⟩:=Int.eq_ofNat_of_zero_le (show 0≤x%18446744073709551616 by omega)
  have hal:a<2 ^ 64:=by omega
  have hm:((2:Int) ^ i - 1)=((2 ^ i - 1:Nat):Int):=by rw [Int.natCast_sub (Nat.two_pow_pos i)];simp
  have hml:2 ^ i - 1<2 ^ 64:=Nat.lt_of_lt_of_le (Nat.sub_lt (Nat.two_pow_pos i) (by decide)) (Nat.pow_le_pow_right (by decide) (by omega))
  have key:Go.bits .and .i64 (wrap64 x) (2 ^ i - 1)=IntKind.i64.wrap ((BitVec.ofInt 64 (wrap64 x) &&& BitVec.ofInt 64 (2 ^ i - 1)).toNat:Int):=rfl
  rw [key,ha,ea,hm,BitVec.ofInt_natCast,BitVec.ofInt_natCast,BitVec.toNat_and,BitVec.toNat_ofNat,BitVec.toNat_ofNat,Nat.mod_eq_of_lt hal,Nat.mod_eq_of_lt hml,Nat.and_two_pow_sub_one_eq_mod,IntKind.wrap_i64]
  have e1:x%2 ^ i=(x%18446744073709551616)%2 ^ i:=(Int.emod_emod_of_dvd x hd).symm
  rw [e1,ea]
  have e2:((a%2 ^ i:Nat):Int)=(a:Int)%2 ^ i:=by simp
  rw [e2]
  have:=Int.emod_nonneg (a:Int) (show (2:Int) ^ i≠0 by omega)
  have:=Int.emod_lt_of_pos (a:Int) hp
  omega
end Go.Proofs.Ytcdkbdkanjifeaa.Math
