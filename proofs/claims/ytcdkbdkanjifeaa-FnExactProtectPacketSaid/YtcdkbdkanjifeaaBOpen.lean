/- Plain lemmas: what the reading of an argument (a whole number, a bool, a slice of such, a slice of structs or of slices, a struct by value) says of its value, in the print's words; nothing here speaks of the program. -/
import Derived.Test.YtcdkbdkanjifeaaBMore
import Derived.Lib.SmallJoins
import Derived.Deep.Slices
import Derived.Deep.Fields
import Derived.ChangeSame
import Derived.ShutString
namespace Go.Proofs.Ytcdkbdkanjifeaa.Open
open Go.RowKit Go.Joins Go.ChangeShapes Go.WideShapes Go.Deep Go.Proofs.YtcdkbdkanjifeaaW.PrintWords Go.Proofs.YtcdkbdkanjifeaaW.PrintLast Go.Proofs.YtcdkbdkanjifeaaW.PrintMore
set_option linter.unusedVariables false
section
variable {H : Type} {enc : TypeId × Value → H} {P : Program} {w : World} {base : Nat} {spare : Nat → Bool} {held : Bool}
def Opens (enc:TypeId×Value→H) (P:Program) (w:World) (base:Nat) (spare:Nat→Bool) (held:Bool) (t:TypeId) {α:Type} (d:Kd α) (Q:α→Prop):Prop:=
  ∀ fuel cs x,DataW.trod enc P w base spare held fuel t cs=some x→∃ a,d.K w a cs∧Q a
theorem opens_int {t:TypeId} {k:IntKind} (h:P.underlying t=some (.int k)):Opens enc P w base spare held t (Kd.int k) (fun a=>(Lit.int k a).wf=true):=by
  intro fuel cs x hx
  obtain ⟨n,rfl,_,hw⟩:=DataW.trod_int h hx
  exact ⟨n,rfl,hw⟩
theorem opens_bool {t:TypeId} (h:P.underlying t=some .bool):Opens enc P w base spare held t Kd.bool (fun _=>True):=by
  intro fuel cs x hx
  obtain ⟨n,rfl,_⟩:=DataW.trod_bool h hx
  exact ⟨n,rfl,trivial⟩
theorem opens_string {t:TypeId} (h:P.underlying t=some .string):Opens enc P w base spare held t Kd.string (fun s=>s.size≤maxLen):=by
  intro fuel cs x hx
  obtain ⟨n,rfl,_,hw⟩:=DataW.trod_string h hx
  exact ⟨n,rfl,hw⟩
theorem opens_slice {t e q:TypeId} {α:Type} {d:Kd α} {Q:α→Prop} (z:α) (ht:P.underlying t=some (.slice e)) (hs:P.cellsOf e=d.sz) (he:Opens enc P w base spare held e d Q) :
    Opens enc P w base spare held t (Kd.slice q d) (fun l=>l.length≤maxLen∧∀ x∈l,Q x):=by
  intro fuel cs x hx
  haveI:Inhabited α:=⟨z⟩
  rcases open_slice ht hx with ⟨rfl,_⟩|⟨a,len,cap,m,n,D,Pl,rfl,hb,hl,hm,hmm,_,hi⟩
  · exact ⟨[],⟨none,0,rfl,by simp,rfl,by simp,fun h=>absurd h (by simp)⟩,by simp,by simp⟩
  · have hlm:len≤m:=by rw [hmm];split <;> omega
    obtain ⟨F,hF⟩:=choose_lt (α:=α) (n:=len) (p:=fun i y=>∃ cs',w.cells? base (a.add (i*d.sz)) d.sz=some cs' ∧d.K w y cs' ∧Q y) (fun i hil=>by
      obtain ⟨cs',hc,ht'⟩:=hi i (by omega)
      obtain ⟨y,hK,hQ⟩:=he _ _ _ ht'
      rw [hs] at hc
      exact ⟨y,cs',hc,hK,hQ⟩)
    have hlen:((List.range len).map F).length=len:=by simp
    refine ⟨(List.range len).map F,⟨some a,cap,by rw [hlen],by rw [hlen];exact hl,hlen.trans hlen.symm,?_,fun _=>⟨a,rfl,?_⟩⟩,?_,?_⟩
    · rw [hlen];unfold maxLen at hm;omega
    · intro j p hj
      have hjl:j<len:=by
        have:=(List.getElem?_eq_some_iff.1 hj).1
        rwa [hlen] at this
      simp [hjl] at hj
      obtain ⟨cs',hc,hK,_⟩:=hF j hjl
      obtain ⟨_,hcl,hat⟩:=World.cells?_some hc
      refine ⟨cs',hcl,hj ▸ hK,fun i u hu=>?_⟩
      have hil:i<d.sz:=by rw [←hcl];exact (List.getElem?_eq_some_iff.1 hu).1
      rw [←Go.Deep.add_add,hat i hil,hu]
    · rw [hlen];omega
    · intro y hy
      obtain ⟨j,hj,rfl⟩:=List.mem_map.1 hy
      obtain ⟨_,_,_,hQ⟩:=hF j (List.mem_range.1 hj)
      exact hQ
theorem opens_pair {t:TypeId} {f0 f1:Field} {k0 k1:IntKind} {β:Type} {d:Kd β} {Q:β→Prop} (mk:Int→Int→β) (ht:P.underlying t=some (.struct #[f0,f1])) (hone:oneCellFields P #[f0,f1]=true) (hC:P.cellsOf t=2)
    (h0:P.underlying f0.type=some (.int k0)) (h1:P.underlying f1.type=some (.int k1)) (hK:∀ a b,d.K w (mk a b) [.int k0 a, .int k1 b])
    (hQ:∀ a b,(Lit.int k0 a).wf=true→(Lit.int k1 b).wf=true→Q (mk a b)):Opens enc P w base spare held t d Q:=by
  intro fuel cs x hx
  obtain ⟨xs,n,_,_,hlen,hxl,hg⟩:=DataW.trod_struct ht hx
  have hx2:xs.length=2:=hxl
  rw [hC] at hlen
  obtain ⟨o0,q0⟩:=hone_of hone 0 f0 rfl
  obtain ⟨o1,q1⟩:=hone_of hone 1 f1 rfl
  match cs,hlen with
  | [c0,c1],_=>
    have g0:=hg 0 f0 rfl
    have g1:=hg 1 f1 rfl
    rw [o0,q0] at g0
    rw [o1,q1] at g1
    have e0:∃ y,DataW.trod enc P w base spare held n f0.type [c0]=some y:=by
      cases h:DataW.trod enc P w base spare held n f0.type [c0] with
      |some y=>exact ⟨y,rfl⟩
      |none=>
        have:xs[0]? =none:=by rw [←g0];exact h
        have:=List.getElem?_eq_none_iff.1 this
        omega
    have e1:∃ y,DataW.trod enc P w base spare held n f1.type [c1]=some y:=by
      cases h:DataW.trod enc P w base spare held n f1.type [c1] with
      |some y=>exact ⟨y,rfl⟩
      |none=>
        have:xs[1]? =none:=by rw [←g1];exact h
        have:=List.getElem?_eq_none_iff.1 this
        omega
    obtain ⟨y0,e0⟩:=e0
    obtain ⟨y1,e1⟩:=e1
    obtain ⟨a,ha,_,wa⟩:=DataW.trod_int h0 e0
    obtain ⟨b,hb,_,wb⟩:=DataW.trod_int h1 e1
    injection ha with ha _
    injection hb with hb _
    subst ha hb
    exact ⟨mk a b,hK a b,hQ a b wa wb⟩
theorem open_fields {r:Reach} {b0:Nat} {t:TypeId} {fs:Array Field} {v:Value} {d:DataW H} {p:List MemPlace} (ht:P.underlying t=some (.struct fs)) (hone:oneCellFields P fs=true) (hC:P.cellsOf t=fs.size)
    (hv:Value.okWide P w r b0 t v) (h:DataW.Trod enc P w base spare held t v d p) :
    ∃ cs:List Value,v = .agg cs.toArray∧cs.length=fs.size∧∀ (j:Nat) (f:Field),fs[j]? =some f→∃ c n y,cs[j]? =some c∧DataW.trod enc P w base spare held n f.type [c]=some y:=by
  obtain ⟨cs0,rfl,hsz⟩:=okWide_struct ht hv
  obtain ⟨cs⟩:=cs0
  have hcl:cs.length=fs.size:=by simpa using hsz.trans hC
  obtain ⟨fuel,hf⟩:=h
  obtain ⟨xs,n,_,_,_,hxl,hg⟩:=DataW.trod_struct ht hf
  refine ⟨cs,rfl,hcl,fun j f hj=>?_⟩
  obtain ⟨o,q⟩:=hone_of hone j f hj
  have hjl:j<fs.size:=(Array.getElem?_eq_some_iff.1 hj).1
  have g:=hg j f hj
  rw [o,q] at g
  have hcs:((Value.agg (⟨cs⟩:Array Value)).cells.toList)=cs:=rfl
  rw [hcs] at g
  have h1:(cs.drop j).take 1 = [cs[j]'(by omega)]:=by
    rw [List.drop_eq_getElem_cons (by omega)]
    rfl
  rw [h1] at g
  exact ⟨cs[j]'(by omega),n,xs[j]'(by omega),List.getElem?_eq_getElem (by omega),g.trans (List.getElem?_eq_getElem (by omega))⟩
theorem list4 {α:Type} {cs:List α} (h:cs.length=4):∃ c0 c1 c2 c3,cs = [c0,c1,c2,c3]:=by
  match cs,h with
  | [c0,c1,c2,c3],_=>exact ⟨c0,c1,c2,c3,rfl⟩
theorem list8 {α:Type} {cs:List α} (h:cs.length=8):∃ c0 c1 c2 c3 c4 c5 c6 c7,cs = [c0,c1,c2,c3,c4,c5,c6,c7]:=by
  match cs,h with
  | [c0,c1,c2,c3,c4,c5,c6,c7],_=>exact ⟨c0,c1,c2,c3,c4,c5,c6,c7,rfl⟩
theorem slice_cell {α:Type} {d:Kd α} {q:Nat} {Q:List α→Prop} {c:Value} (h:∃ l,(Kd.slice q d).K w l [c]∧Q l):∃ (A:Option Addr) (n:Nat) (l:List α),c = .slice A l.length n∧l.length≤n∧d.C w A l.length l∧Q l:=by
  obtain ⟨l,⟨A,n,he,hl,hC⟩,hQ⟩:=h
  injection he with he _
  exact ⟨A,n,l,he,hl,hC,hQ⟩
theorem int_cell {k:IntKind} {Q:Int→Prop} {c:Value} (h:∃ a,(Kd.int k).K w a [c]∧Q a):∃ a,c = .int k a∧Q a:=by
  obtain ⟨a,he,hQ⟩:=h
  have he: [c] = [Value.int k a]:=he
  injection he with he _
  exact ⟨a,he,hQ⟩
theorem bool_cell {Q:Bool→Prop} {c:Value} (h:∃ a,Kd.bool.K w a [c]∧Q a):∃ a,c = .bool a∧Q a:=by
  obtain ⟨a,he,hQ⟩:=h
  have he: [c] = [Value.bool a]:=he
  injection he with he _
  exact ⟨a,he,hQ⟩
theorem slice_arg {α:Type} {d:Kd α} {q t e:TypeId} {Q:List α→Prop} {r:Reach} {b0:Nat} {v:Value} {y:DataW H} {p:List MemPlace} (ht:P.underlying t=some (.slice e)) (hv:Value.okWide P w r b0 t v) (h:DataW.Trod enc P w base spare held t v y p)
    (ho:Opens enc P w base spare held t (Kd.slice q d) Q):∃ (A:Option Addr) (n:Nat) (l:List α),v = .slice A l.length n∧l.length≤n∧d.C w A l.length l∧Q l:=by
  obtain ⟨A,len,cap,rfl⟩:=okWide_slice ht hv
  obtain ⟨fuel,hf⟩:=h
  exact slice_cell (ho _ _ _ hf)
end
end Go.Proofs.Ytcdkbdkanjifeaa.Open
