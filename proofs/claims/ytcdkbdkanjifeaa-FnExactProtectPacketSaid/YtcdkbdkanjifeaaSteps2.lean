/- Steps of a region that draws its order, each in one row: an operation that is passed over (sk), one that yields in every world (pu), one that reads what is held (tk). -/
import Derived.Test.YtcdkbdkanjifeaaBTab
import Derived.Test.YtcdkbdkanjifeaaBLast
namespace Go.Proofs.Ytcdkbdkanjifeaa.Steps2
open Go Go.RowKit Go.Proofs.YtcdkbdkanjifeaaW.PrintWords Go.Proofs.YtcdkbdkanjifeaaW.PrintLast
abbrev bm (k n:Nat):Array Bool:=((List.range n).map (fun i=>decide (i<k))).toArray
abbrev bb (m n:Nat):Array Bool:=((List.range n).map (fun i=>m.testBit i)).toArray
theorem nt: ¬ (false=true):=by decide
theorem m1 {α β:Type} {f:α→β} {l:List α} :Array.map f l.toArray=(List.map f l).toArray:=List.map_toArray ..
theorem m2 {α β:Type} {f:α→β} {a:α} {l:List α} :List.map f (a :: l)=f a :: List.map f l:=List.map_cons
theorem m3 {α β:Type} {f:α→β} :List.map f [] = []:=List.map_nil
theorem s1 {α:Type} {l:List α} {i:Nat} {a:α} :l.toArray.setIfInBounds i a=(l.set i a).toArray:=List.setIfInBounds_toArray _ _ _
theorem s2 {α:Type} {a b:α} {as:List α} :(a :: as).set 0 b=b :: as:=List.set_cons_zero
theorem s3 {α:Type} {a b:α} {as:List α} {n:Nat} :(a :: as).set (n+1) b=a :: as.set n b:=List.set_cons_succ
section
variable {P : Program} {md : Region.Mode} {ops : Array Oper} {Q : Exit → Act → World → Prop} {S : World → Prop} {ds : List Nat} {fuel : Nat} {l : Array Bool} {a : Act} {w : World} {oi : Oper} {T : Bool × List (List Nat × List Nat)} {B : List Nat}
theorem sk (i n:Nat) (l' :Array Bool) (hT:Aside0 (rtab md ops=T)) (hi:ops[i]? =some oi:=by rfl) (hN:oi.dst=some n:=by rfl) (hc:anyT T l.toList l'.toList i=true:=by kernel_rfl)
    (hQ:∀ c a v w,Q (.panic c) (a.put oi.dst v) w→Q (.panic c) a w:=by intros;assumption) (hw:Region.wanted oi (yielded ops a.tmps)=false:=by rfl) (h:∃ a',a.put (some n) undef=a' ∧wpAnyLast P md ops Q S ds fuel l' a' w) :
    wpAnyLast P md ops Q S ds (fuel+1) l a w:=
  let ⟨_,ha,h⟩:=h
  pure_ (v:=undef) l' hi hN (any_of hT.out hc) (fun c a w h=>hQ c a _ w h) (Or.inr ⟨hw,rfl⟩) ha h
theorem pu (i n:Nat) (l' :Array Bool) (hT:Aside0 (rtab md ops=T)) (hi:ops[i]? =some oi:=by rfl) (hN:oi.dst=some n:=by rfl) (hc:anyT T l.toList l'.toList i=true:=by kernel_rfl)
    (hQ:∀ c a v w,Q (.panic c) (a.put oi.dst v) w→Q (.panic c) a w:=by intros;assumption) (hw:Region.wanted oi (yielded ops a.tmps)=true:=by rfl) (h:∃ v,(∀ w,(execOp a.eval oi).run P w = .ok (.value v) w)∧∃ a',a.put (some n) v=a' ∧wpAnyLast P md ops Q S ds fuel l' a' w) :
    wpAnyLast P md ops Q S ds (fuel+1) l a w:=
  let ⟨_,hy,_,ha,h⟩:=h
  pure_ l' hi hN (any_of hT.out hc) (fun c a w h=>hQ c a _ w h) (Or.inl ⟨hw,hy⟩) ha h
theorem tk (i n:Nat) (l' :Array Bool) (hT:Aside0 (rtab md ops=T)) (hB:Aside0 (waitsOk T.2 B=true)) (hi:ops[i]? =some oi:=by rfl) (hN:oi.dst=some n:=by rfl) (hc:takeW T B ds l.toList l'.toList i=true:=by kernel_rfl)
    (hQ:∀ c a v w,Q (.panic c) (a.put oi.dst v) w→Q (.panic c) a w:=by intros;assumption) (hw:Region.wanted oi (yielded ops a.tmps)=true:=by rfl) (hS:S w) (h:∃ v,(∀ w,S w→(execOp a.eval oi).run P w = .ok (.value v) w)∧∃ a',a.put (some n) v=a' ∧wpAnyLast P md ops Q S ds fuel l' a' w) :
    wpAnyLast P md ops Q S ds (fuel+1) l a w:=
  let ⟨_,hy,_,ha,h⟩:=h
  take_ l' hi hN (take_ofW hT.out hB.out hc) (fun c a w h=>hQ c a _ w h) (Or.inl ⟨hw,hy⟩) hS ha h
end
theorem fz8 {W:World} {g:Nat} {t:TypeId} {v0 v1 v2 v3 v4 v5 v6 v7:Value} (H:W.heap[g]? =some (.cells #[v0,v1,v2,v3,v4,v5,v6,v7] t (0,0))):W.cell? ⟨g,0,none⟩=some v0∧W.cell? ⟨g,1,none⟩=some v1∧W.cell? ⟨g,2,none⟩=some v2∧W.cell? ⟨g,3,none⟩=some v3∧W.cell? ⟨g,4,none⟩=some v4∧W.cell? ⟨g,5,none⟩=some v5∧W.cell? ⟨g,6,none⟩=some v6∧W.cell? ⟨g,7,none⟩=some v7:=⟨(blk_cell H 0).trans rfl,(blk_cell H 1).trans rfl,(blk_cell H 2).trans rfl,(blk_cell H 3).trans rfl,(blk_cell H 4).trans rfl,(blk_cell H 5).trans rfl,(blk_cell H 6).trans rfl,(blk_cell H 7).trans rfl⟩
theorem gen_wp {P:Program} {c:Code} {Q:Exit→Act→World→Prop} {a:Act} {W:World} (F:World→Prop) (hF:F W) (h:∀ w',F w' →c.wp P Q a w'):c.wp P Q a W:=h W hF
end Go.Proofs.Ytcdkbdkanjifeaa.Steps2
