/- Steps of a region that draws its order, each in one row: an operation that is passed over (sk), one that yields in every world (pu), one that reads what is held (tk). -/
import Derived.Test.YtdojcdhlcnlohaaATab
import Derived.Test.YtdojcdhlcnlohaaALast
namespace Go.Proofs.Ytdojcdhlcnlohaa.Steps
open Go Go.RowKit Go.Proofs.YtdojcdhlcnlohaaW.PrintWords Go.Proofs.YtdojcdhlcnlohaaW.PrintLast
/-- The first k of n have come up. -/
abbrev bm (k n : Nat) : Array Bool := ((List.range n).map (fun i => decide (i < k))).toArray
theorem s1 {α : Type} {l : List α} {i : Nat} {a : α} : l.toArray.setIfInBounds i a = (l.set i a).toArray := List.setIfInBounds_toArray _ _ _
theorem s2 {α : Type} {a b : α} {as : List α} : (a :: as).set 0 b = b :: as := List.set_cons_zero
theorem s3 {α : Type} {a b : α} {as : List α} {n : Nat} : (a :: as).set (n + 1) b = a :: as.set n b := List.set_cons_succ
section
variable {P : Program} {md : Region.Mode} {ops : Array Oper} {Q : Exit → Act → World → Prop} {S : World → Prop} {ds : List Nat} {fuel : Nat} {l : Array Bool} {a : Act} {w : World} {oi : Oper} {T : Bool × List (List Nat × List Nat)} {B : List Nat}
theorem sk (i n : Nat) (l' : Array Bool) (hT : Aside0 (rtab md ops = T)) (hi : ops[i]? = some oi) (hN : oi.dst = some n) (hc : anyT T l.toList l'.toList i = true)
    (hQ : ∀ c a v w, Q (.panic c) (a.put oi.dst v) w → Q (.panic c) a w) (hw : Region.wanted oi (yielded ops a.tmps) = false) (h : ∃ a', a.put (some n) undef = a' ∧ wpAnyLast P md ops Q S ds fuel l' a' w) :
    wpAnyLast P md ops Q S ds (fuel + 1) l a w :=
  let ⟨_, ha, h⟩ := h
  pure_ (v := undef) l' hi hN (any_of hT.out hc) (fun c a w h => hQ c a _ w h) (Or.inr ⟨hw, rfl⟩) ha h
theorem pu (i n : Nat) (l' : Array Bool) (hT : Aside0 (rtab md ops = T)) (hi : ops[i]? = some oi) (hN : oi.dst = some n) (hc : anyT T l.toList l'.toList i = true)
    (hQ : ∀ c a v w, Q (.panic c) (a.put oi.dst v) w → Q (.panic c) a w) (hw : Region.wanted oi (yielded ops a.tmps) = true) (h : ∃ v, (∀ w, (execOp a.eval oi).run P w = .ok (.value v) w) ∧ ∃ a', a.put (some n) v = a' ∧ wpAnyLast P md ops Q S ds fuel l' a' w) :
    wpAnyLast P md ops Q S ds (fuel + 1) l a w :=
  let ⟨_, hy, _, ha, h⟩ := h
  pure_ l' hi hN (any_of hT.out hc) (fun c a w h => hQ c a _ w h) (Or.inl ⟨hw, hy⟩) ha h
theorem tk (i n : Nat) (l' : Array Bool) (hT : Aside0 (rtab md ops = T)) (hB : Aside0 (waitsOk T.2 B = true)) (hi : ops[i]? = some oi) (hN : oi.dst = some n) (hc : takeW T B ds l.toList l'.toList i = true)
    (hQ : ∀ c a v w, Q (.panic c) (a.put oi.dst v) w → Q (.panic c) a w) (hw : Region.wanted oi (yielded ops a.tmps) = true) (hS : S w) (h : ∃ v, (∀ w, S w → (execOp a.eval oi).run P w = .ok (.value v) w) ∧ ∃ a', a.put (some n) v = a' ∧ wpAnyLast P md ops Q S ds fuel l' a' w) :
    wpAnyLast P md ops Q S ds (fuel + 1) l a w :=
  let ⟨_, hy, _, ha, h⟩ := h
  take_ l' hi hN (take_ofW hT.out hB.out hc) (fun c a w h => hQ c a _ w h) (Or.inl ⟨hw, hy⟩) hS ha h
end
/-- The world made a letter, with the facts that are known of it. -/
theorem gen_wp {P : Program} {c : Code} {Q : Exit → Act → World → Prop} {a : Act} {W : World} (F : World → Prop) (hF : F W) (h : ∀ w', F w' → c.wp P Q a w') : c.wp P Q a W := h W hF
end Go.Proofs.Ytdojcdhlcnlohaa.Steps
