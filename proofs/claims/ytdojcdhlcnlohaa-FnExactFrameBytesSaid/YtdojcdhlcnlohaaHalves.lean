/- A list of operations is walked in two halves, with a relation between them. -/
import Derived.Tactics
import Derived.Deep.Cut
namespace Go.Proofs.Ytdojcdhlcnlohaa
open Go
variable {P : Program} {ops : Array Oper} {Q Q' : Exit → Act → World → Prop}
theorem upon_out {o : Oper} {a : Act} {n n' : Act → World → Prop} (hn : ∀ a w, n a w → n' a w) (hp : ∀ ch a w, Q (.panic ch) a w → Q' (.panic ch) a w) (ho : LetsOut Q → LetsOut Q') (r : Result Next) (h : o.upon P a n Q r) : o.upon P a n' Q' r := by
  unfold Oper.upon at h ⊢
  split at h
  · exact hn _ _ h
  · exact hn _ _ h
  · exact hn _ _ h
  · refine h.mono ?_
    intro e w' he
    cases e with
    | returned v => exact hn _ _ he
    | panicked ch => exact hp _ _ _ he
    | outgrown => exact ho he
  · exact h.mono (fun v w' hv => hn _ _ hv)
  · exact hp _ _ _ h
  · exact h.elim
theorem halves_go (l2 : List Oper) (hp : ∀ ch a w, Q' (.panic ch) a w → Q (.panic ch) a w) (ho : LetsOut Q' → LetsOut Q) (hn : ∀ a w, Q' .normal a w → wpList P ops Q l2 a w) :
    ∀ (l1 : List Oper) (a : Act) (w : World), wpList P ops Q' l1 a w → wpList P ops Q (l1 ++ l2) a w
  | [], a, w, h => hn a w h
  | o :: l1, a, w, h => by
    have ih := halves_go l2 hp ho hn l1
    show wpList P ops Q (o :: (l1 ++ l2)) a w
    unfold wpList at h ⊢
    split at h
    · rename_i hw
      rw [if_pos hw]
      rcases h with h | ⟨h, h'⟩
      · exact .inl (upon_out (fun a w => ih a w) hp ho _ h)
      · exact .inr ⟨h, ho h'⟩
    · rename_i hw
      rw [if_neg hw]
      exact ih _ _ h
theorem wpList_halves (n : Nat) (R : Act → Act → World → Prop) {l : List Oper} {a : Act} {w : World}
    (first : ∀ (Q' : Exit → Act → World → Prop) (J : Act → World → Prop), (∀ a' w', R a a' w' → J a' w') → (∀ a' w', Met J a' w' → Q' .normal a' w') → (LetsOut Q → LetsOut Q') → wpList P ops Q' (l.take n) a w)
    (rest : ∀ a' w', R a a' w' → wpList P ops Q (l.drop n) a' w') : wpList P ops Q l a w := by
  have h := first (fun e a' w' => match e with | .normal => R a a' w' | e => Q e a' w') (R a) (fun _ _ h => h) (fun _ _ h => h) (fun h => h)
  have := halves_go (P := P) (ops := ops) (Q := Q) (Q' := fun e a' w' => match e with | .normal => R a a' w' | e => Q e a' w') (l.drop n) (fun _ _ _ h => h) (fun h => h) (fun a w h => rest a w h) (l.take n) a w h
  rwa [List.take_append_drop] at this
end Go.Proofs.Ytdojcdhlcnlohaa
