/- The walk of functions that the law FnExactFrameBytes uses, written by program. -/
import Derived.Test.YtdojcdhlcnlohaaSFnExactFrameBytesx0
import Derived.Maps.Own
import Derived.Maps.OwnSet
import Derived.Maps.Views
import Derived.Test.YtdojcdhlcnlohaaSteps2
namespace Go.Proofs.Ytdojcdhlcnlohaa.SFnExactFrameBytes
open Go.Proofs.Ytdojcdhlcnlohaa.Steps2 Go.RowKit Go.Proofs.YtdojcdhlcnlohaaW.PrintWords Go.Proofs.YtdojcdhlcnlohaaW.PrintLast Go.Proofs.YtdojcdhlcnlohaaW.PrintMore
attribute [local go_sem] max2_int min2_int max_two min_two max_three min_three max_four min_four   -- for this text's walks alone
set_option linter.unusedVariables false
set_option linter.unusedSimpArgs false

/-! ### impl_inVar: function 58 -/
def impl_inVar.f (a0 : Int) : Option (Bool) := if a0 ≥ 0 then (some (decide (a0 ≤ 4611686018427387903))) else (some false)
set_option maxHeartbeats 8000000 in
set_option maxRecDepth 100000 in
theorem impl_inVar.calls (a0 : Int) (r : Bool) (w : World) (h : impl_inVar.f a0 = some r) :
    Calls Try.prog 58 #[.int .i64 a0] w fun e w' => e = .returned (.bool r) ∧ Drawn0 w w' := by
  have H : (if a0 ≥ 0 then (some (decide (a0 ≤ 4611686018427387903))) else (some false)) = some r := h
  clear h
  by_cases c2 : a0 ≥ 0
  · rw [if_pos c2] at H
    have c2b0 : decide (0 ≤ a0) = true := decide_eq_true c2
    clear c2
    obtain rfl := Option.some.inj H
    go_enter Try.func58, Try.ntmps58
    go_wp2
    go_ret
    exact ⟨by first | rfl | (simp; done) | (simp [*]; done), by repeat (first | exact Drawn0.refl _ | apply Drawn0.step)⟩
  · rw [if_neg c2] at H
    have c2b0 : decide (0 ≤ a0) = false := decide_eq_false c2
    clear c2
    obtain rfl := Option.some.inj H
    go_enter Try.func58, Try.ntmps58
    go_wp2
    go_ret
    exact ⟨by first | rfl | (simp; done) | (simp [*]; done), by repeat (first | exact Drawn0.refl _ | apply Drawn0.step)⟩

/-! ### impl_shapeOf: function 72 -/
section
open Go.Maps Go.ChangeMaps
/-- Which of a frame's fields a kind names: a, b, fin, data, token, ranges. -/
abbrev B6 := Bool × Bool × Bool × Bool × Bool × Bool
def shTab : List (Int × B6) :=
  [(0, true, false, false, false, false, false), (1, false, false, false, false, false, false), (2, true, false, false, false, false, true), (4, true, true, false, false, false, false),
   (5, true, true, false, false, false, false), (6, true, false, false, true, false, false), (7, false, false, false, true, false, false), (8, true, true, true, true, false, false),
   (16, true, false, false, false, false, false), (17, true, true, false, false, false, false), (18, true, true, false, false, false, false), (20, true, false, false, false, false, false),
   (21, true, true, false, false, false, false), (22, true, true, false, false, false, false), (24, true, true, false, true, true, false), (25, true, false, false, false, false, false),
   (26, false, false, false, true, false, false), (27, false, false, false, true, false, false), (28, true, true, false, true, false, false), (29, true, false, false, true, false, false),
   (30, false, false, false, false, false, false), (48, false, false, false, true, false, false)]
def shV (k : Int) : B6 := shTab.foldl (fun acc x => if x.1 = k then x.2 else acc) (false, false, false, false, false, false)
def shK (k : Int) : Bool := shTab.any fun x => decide (x.1 = k)
def enc6 (b : B6) : DataW Unit := .agg [.lit (.bool b.1), .lit (.bool b.2.1), .lit (.bool b.2.2.1), .lit (.bool b.2.2.2.1), .lit (.bool b.2.2.2.2.1), .lit (.bool b.2.2.2.2.2)]
def val6 (b : B6) : Value := .agg #[.bool b.1, .bool b.2.1, .bool b.2.2.1, .bool b.2.2.2.1, .bool b.2.2.2.2.1, .bool b.2.2.2.2.2]
def shR : Value → Option (DataW Unit × List MemPlace)
  | .agg cs => match cs.toList with
    | [.bool a, .bool b, .bool c, .bool d, .bool e, .bool f] => some (enc6 (a, b, c, d, e, f), [])
    | _ => none
  | _ => none
theorem shR_mk (b : B6) : shR (val6 b) = some (enc6 b, []) := rfl
theorem shR_inv {v : Value} {b : B6} {ps : List MemPlace} (h : shR v = some (enc6 b, ps)) : v = val6 b := by
  unfold shR at h
  split at h
  · rename_i cs
    split at h
    · rename_i a b' c d e f hl
      simp only [Option.some.injEq, Prod.mk.injEq, enc6, DataW.agg.injEq, List.cons.injEq, DataW.lit.injEq, Lit.bool.injEq, and_true] at h
      obtain ⟨⟨h1, h2, h3, h4, h5, h6⟩, -⟩ := h
      have : cs = #[.bool a, .bool b', .bool c, .bool d, .bool e, .bool f] := by
        apply Array.toList_inj.1
        rw [hl]
      rw [this, h1, h2, h3, h4, h5, h6]
      rfl
    · cases h
  · cases h
def putMap (l : List (Int × B6)) (D : DataW Unit) : DataW Unit := l.foldl (fun m x => m.put (.int .i64 x.1) (enc6 x.2)) D
theorem isMap_putMap (l : List (Int × B6)) : ∀ D : DataW Unit, Maps.IsMap D → Maps.IsMap (putMap l D) := by
  induction l with
  | nil => intro D h; exact h
  | cons x l ih => intro D h; exact ih _ (h.put _ _)
theorem at_putMap (k : Int) (z : DataW Unit) (l : List (Int × B6)) : ∀ (D : DataW Unit) (y : B6), Maps.IsMap D → D.atKey (.int .i64 k) z = enc6 y → (putMap l D).atKey (.int .i64 k) z = enc6 (l.foldl (fun acc x => if x.1 = k then x.2 else acc) y) := by
  induction l with
  | nil => intro D y _ h; exact h
  | cons x l ih =>
    intro D y hD h
    refine ih _ _ (hD.put _ _) ?_
    show (D.put (.int .i64 x.1) (enc6 x.2)).atKey (.int .i64 k) z = enc6 (if x.1 = k then x.2 else y)
    by_cases e : x.1 = k
    · rw [if_pos e, e]; exact Maps.atKey_put_same hD (k := .int .i64 k) trivial _ _
    · rw [if_neg e, Maps.atKey_put_other (by simpa using fun h => e h.symm)]; exact h
theorem has_putMap (k : Int) (l : List (Int × B6)) : ∀ (D : DataW Unit) (b : Bool), Maps.IsMap D → Maps.has D (.int .i64 k) = b → Maps.has (putMap l D) (.int .i64 k) = (b || l.any fun x => decide (x.1 = k)) := by
  induction l with
  | nil => intro D b _ h; simpa [putMap] using h
  | cons x l ih =>
    intro D b hD h
    rw [show putMap (x :: l) D = putMap l (D.put (.int .i64 x.1) (enc6 x.2)) from rfl]
    by_cases e : x.1 = k
    · rw [ih _ true (hD.put _ _) (by rw [e]; exact Maps.has_put_same hD (k := .int .i64 k) trivial _)]
      simp [e]
    · rw [ih _ b (hD.put _ _) (by rw [Maps.has_put_other (by simpa using fun h => e h.symm)]; exact h)]
      simp [e]
/-- The map as it is built: block b; the result's variable: block g. -/
structure ShI (w0 wc : World) (g b n : Nat) (D : DataW Unit) : Prop where
  own : wc.ownsMap Try.prog 3 shR b n D
  bel : Below w0.heap.size w0 wc
  blk : wc.heap[g]? = some (.cells #[.bool false, .bool false, .bool false, .bool false, .bool false, .bool false] 84 (0, 0))
  ne : g ≠ b
  ge : w0.heap.size ≤ g
  gb : w0.heap.size ≤ b
theorem sh_make {w0 w : World} {g : Nat} {ops : Array Oper} {rest : List Oper} {o : Oper} {a : Act} {Q : Exit → Act → World → Prop} (hg : o.guard = none) (hop : o.op = Op.makeMap 103 none) {N : Tmp} (hd : o.dst = some N)
    (HB : Below w0.heap.size w0 w) (BK : w.heap[g]? = some (.cells #[.bool false, .bool false, .bool false, .bool false, .bool false, .bool false] 84 (0, 0))) (GE : w0.heap.size ≤ g)
    (hK : ∀ w' b, ShI w0 w' g b 0 (putMap [] (.map [])) → wpList Try.prog ops Q rest (a.put (some N) (.map (some b))) w') : wpList Try.prog ops Q (o :: rest) a w := by
  refine wpList_plain hg fun K' hK' => ?_
  have hrun : (Instr.makeMap 103 none).run Try.prog w = .ok (.map (some w.heap.size)) (w.alloc (.map #[] 0)) := rfl
  have hlt : g < w.heap.size := (Array.getElem?_eq_some_iff.1 BK).1
  unfold Oper.wp
  simp [execOp, hop, hrun, Result.andThen]
  show K' (a.put o.dst (.map (some w.heap.size))) _
  rw [hd]
  exact hK' _ _ (hK _ _ ⟨World.ownsMap_made _ _ _ _, below_alloc HB _, blk_alloc BK _, Nat.ne_of_lt hlt, GE, HB.size⟩)
theorem sh_put {w0 w : World} {g b n : Nat} {l : List (Int × B6)} {ops : Array Oper} {rest : List Oper} {o : Oper} {a : Act} {Q : Exit → Act → World → Prop} (hg : o.guard = none) {m x v : Operand} (hop : o.op = Op.insert 103 m x v)
    (HI : ShI w0 w g b n (putMap l (.map []))) (hm : a.eval m = .map (some b)) (hn : n < 100) (k : Int) (y : B6) (hx : a.eval x = .int .i64 k) (hv : a.eval v = val6 y) (hw : (Lit.int .i64 k).wf = true)
    (hK : ∀ w', ShI w0 w' g b (n + 1) (putMap (l ++ [(k, y)]) (.map [])) → wpList Try.prog ops Q rest (a.put o.dst undef) w') : wpList Try.prog ops Q (o :: rest) a w := by
  refine wpList_plain hg fun K' hK' => ?_
  obtain ⟨w', hrun, r1, r2⟩ := HI.own.update (int_keyed Try.underlying3) Try.underlying103 (by unfold maxLen; omega) (keyOf_int_mk Try.underlying3 hw) (shR_mk y)
  have hlt : g < w.heap.size := (Array.getElem?_eq_some_iff.1 HI.blk).1
  unfold Oper.wp
  simp [execOp, hop, hm, hx, hv, hrun, Result.andThen]
  refine hK' _ _ (hK w' ⟨?_, HI.bel.grown r2 HI.bel.size (fun k hk => ?_), (r2.block g hlt (fun e => HI.ne (Option.some.inj e))).trans HI.blk, HI.ne, HI.ge, HI.gb⟩)
  · rw [show putMap (l ++ [(k, y)]) (.map []) = (putMap l (.map [])).put (.int .i64 k) (enc6 y) by simp [putMap]]
    exact r1
  · cases hk
    exact HI.gb
theorem sh_look {w0 w : World} {g b n : Nat} {ops : Array Oper} {rest : List Oper} {o : Oper} {a : Act} {Q : Exit → Act → World → Prop} (hg : o.guard = none) {m x : Operand} (hop : o.op = Op.lookup 103 m x true)
    (HI : ShI w0 w g b n (putMap shTab (.map []))) (hm : a.eval m = .map (some b)) (k : Int) (hx : a.eval x = .int .i64 k) (hw : (Lit.int .i64 k).wf = true)
    (hK : wpList Try.prog ops Q rest (a.put o.dst (.tuple #[.agg #[.bool (shV k).1, .bool (shV k).2.1, .bool (shV k).2.2.1, .bool (shV k).2.2.2.1, .bool (shV k).2.2.2.2.1, .bool (shV k).2.2.2.2.2], .bool (shK k)])) w) : wpList Try.prog ops Q (o :: rest) a w := by
  have hz : (zeroValue 84).run Try.prog w = .ok (val6 (false, false, false, false, false, false)) w := by kernel_rfl
  refine Go.wpList_lookup_own_ok w hg m x 103 hop 3 84 (int_keyed Try.underlying3) Try.underlying103 shR hz (enc6 (false, false, false, false, false, false)) [] (shR_mk _) b n _ hm HI.own (.int .i64 k) (.int .i64 k) hx (keyOf_int_mk Try.underlying3 hw) (fun v ps hv => ?_)
  rw [at_putMap k (enc6 (false, false, false, false, false, false)) shTab (.map []) (false, false, false, false, false, false) ⟨_, rfl⟩ rfl] at hv
  rw [shR_inv hv, has_putMap k shTab (.map []) false ⟨_, rfl⟩ rfl, Bool.false_or]
  exact hK
theorem sh_store {w0 w : World} {g : Nat} {ops : Array Oper} {rest : List Oper} {o : Oper} {a : Act} {Q : Exit → Act → World → Prop} (hg : o.guard = none) (hN : o.dst = none) {p q : Tmp} (hop : o.op = Op.store 84 (.tmp p) (.tmp q))
    (HB : Below w0.heap.size w0 w) (BK : w.heap[g]? = some (.cells #[.bool false, .bool false, .bool false, .bool false, .bool false, .bool false] 84 (0, 0))) (GE : w0.heap.size ≤ g) (hp : a.eval (.tmp p) = .pointer (some ⟨g, 0, none⟩))
    (a1 a2 a3 a4 a5 a6 : Bool) (hq : a.eval (.tmp q) = .agg #[.bool a1, .bool a2, .bool a3, .bool a4, .bool a5, .bool a6])
    (hK : ∀ w', Below w0.heap.size w0 w' → w'.heap[g]? = some (.cells #[.bool a1, .bool a2, .bool a3, .bool a4, .bool a5, .bool a6] 84 (0, 0)) → (∀ i, i ≠ g → w'.heap[i]? = w.heap[i]?) → wpList Try.prog ops Q rest a w') : wpList Try.prog ops Q (o :: rest) a w := by
  refine wpList_plain hg fun K' hK' => ?_
  have hrun := run_store_run (P := Try.prog) (w := w) (g := g) (o := 0) (e := 84) 84 (.agg #[.bool a1, .bool a2, .bool a3, .bool a4, .bool a5, .bool a6]) [.bool a1, .bool a2, .bool a3, .bool a4, .bool a5, .bool a6] BK rfl (by kernel_rfl) (by simp) (by intro q hq; simp at hq; rcases hq with rfl | rfl | rfl | rfl | rfl | rfl <;> rfl)
  unfold Oper.wp
  simp only [execOp, hop, hp, hq, hN]
  simp [hrun, Result.andThen]
  show K' (a.put o.dst undef) _
  rw [hN]
  refine hK' _ _ (hK _ ?_ ?_ ?_)
  · exact below_set (below_set (below_set (below_set (below_set (below_set HB GE) GE) GE) GE) GE) GE
  · exact blk_put (blk_put (blk_put (blk_put (blk_put (blk_put BK 0 _ rfl) 1 _ rfl) 2 _ rfl) 3 _ rfl) 4 _ rfl) 5 _ rfl
  · intro i hi
    simp only [World.setCells]
    rw [RowKit.Below.heap_setCell _ _ _ _ hi, RowKit.Below.heap_setCell _ _ _ _ hi, RowKit.Below.heap_setCell _ _ _ _ hi, RowKit.Below.heap_setCell _ _ _ _ hi, RowKit.Below.heap_setCell _ _ _ _ hi, RowKit.Below.heap_setCell _ _ _ _ hi]
def impl_shapeOf.f (a0 : Int) : Option (Bool × Bool × Bool × Bool × Bool × Bool × Bool) := if (Lit.int .i64 a0).wf = true then (some ((shV a0).1, (shV a0).2.1, (shV a0).2.2.1, (shV a0).2.2.2.1, (shV a0).2.2.2.2.1, (shV a0).2.2.2.2.2, shK a0)) else none
set_option maxHeartbeats 8000000 in
set_option maxRecDepth 100000 in
theorem impl_shapeOf.calls (a0 : Int) (r1 : Bool) (r2 : Bool) (r3 : Bool) (r4 : Bool) (r5 : Bool) (r6 : Bool) (r7 : Bool) (w : World) (h : impl_shapeOf.f a0 = some (r1, r2, r3, r4, r5, r6, r7)) :
    Calls Try.prog 72 #[.int .i64 a0] w fun e w' => e = .returned (.tuple #[.agg #[.bool r1, .bool r2, .bool r3, .bool r4, .bool r5, .bool r6], .bool r7]) ∧ Below w.heap.size w w' := by
  have hu84 := Try.underlying84
  have HB := Aside0.mk (Below.refl w.heap.size w)
  have H : (if (Lit.int .i64 a0).wf = true then (some ((shV a0).1, (shV a0).2.1, (shV a0).2.2.1, (shV a0).2.2.2.1, (shV a0).2.2.2.2.1, (shV a0).2.2.2.2.2, shK a0)) else none) = some (r1, r2, r3, r4, r5, r6, r7) := h
  clear h
  by_cases c1 : (Lit.int .i64 a0).wf = true
  · rw [if_pos c1] at H
    simp only [Option.some.injEq, Prod.mk.injEq] at H
    obtain ⟨rfl, rfl, rfl, rfl, rfl, rfl, rfl⟩ := H
    have HW := Aside0.mk c1
    clear c1
    go_enter Try.func72, Try.ntmps72
    go_wp2_with (first | ((with_reducible refine gate_dst (N := 2) rfl ?_); refine box_event (by rfl) (N := 2) (by rfl) (cs := #[.bool false, .bool false, .bool false, .bool false, .bool false, .bool false]) (t := 84) (by first | (go_simp; done) | (go_simp; rfl)) ?_; intro gb112 hg w2 hbox hb; have n0_ := Aside0.mk (below_step HB.out hb); have n1_ := Aside0.mk (hbox); have n2_ := Aside0.mk ((by rw [hg]; exact (below_size HB.out) : w.heap.size ≤ gb112)); have n3_ := Aside0.mk ((by rw [hg]; exact (below_size HB.out) : w.heap.size ≤ gb112)); clear HB; have HB := n0_; have BK112 := n1_; have GW112 := n2_; have GE112 := n3_; clear n0_ n1_ n2_ n3_; clear hb hbox hg) | ((with_reducible refine gate_dst (N := 7) rfl ?_); refine sh_make rfl rfl rfl HB.out BK112.out GE112.out ?_; intro wm gm hi; have HI := Aside0.mk hi; clear hi) | (refine sh_put (o := ⟨none, _, _, _, _, _⟩) rfl rfl HI.out rfl (by decide) _ (_, _, _, _, _, _) rfl rfl (by decide) ?_; intro wi hi; clear HI; have HI := Aside0.mk hi; clear hi) | ((with_reducible refine gate_dst (N := 34) rfl ?_); refine sh_look rfl rfl HI.out rfl a0 rfl HW.out ?_) | ((with_reducible refine gate_dst (N := 5) rfl ?_); refine box_event (by rfl) (N := 5) (by rfl) (cs := #[.bool false, .bool false, .bool false, .bool false, .bool false, .bool false]) (t := 84) (by first | (go_simp; done) | (go_simp; rfl)) ?_; intro g5 hg w5 hbox hb; have n0_ := Aside0.mk (below_step HI.out.bel hb); have n1_ := Aside0.mk ((hb.block gb112 (Array.getElem?_eq_some_iff.1 HI.out.blk).1).trans HI.out.blk); have GE5 := Aside0.mk (by rw [hg]; exact HI.out.bel.size : w.heap.size ≤ g5); have hne1 := Aside0.mk (by rw [hg]; exact Nat.ne_of_lt (Array.getElem?_eq_some_iff.1 HI.out.blk).1 : ¬ gb112 = g5); have BK5 := Aside0.mk hbox; clear HB BK112; have HB := n0_; have BK112 := n1_; clear n0_ n1_; clear hb hg hbox) | ((with_reducible refine gate_store (t := 84) (p := 5) (v := .tmp 35) rfl ?_); refine sh_store rfl rfl rfl HB.out BK5.out GE5.out rfl _ _ _ _ _ _ rfl ?_; intro w6 hb hk ho; have n0_ := Aside0.mk ((ho gb112 hne1.out).trans BK112.out); clear HB BK112 BK5; have HB := Aside0.mk hb; have BK112 := n0_; have BK5 := Aside0.mk hk; clear n0_ hb hk ho; have ha0 : w6.cell? ⟨g5, 0, none⟩ = some (.bool (shV a0).1) := (blk_cell BK5.out 0).trans rfl; have ha1 : w6.cell? ⟨g5, 1, none⟩ = some (.bool (shV a0).2.1) := (blk_cell BK5.out 1).trans rfl; have ha2 : w6.cell? ⟨g5, 2, none⟩ = some (.bool (shV a0).2.2.1) := (blk_cell BK5.out 2).trans rfl; have ha3 : w6.cell? ⟨g5, 3, none⟩ = some (.bool (shV a0).2.2.2.1) := (blk_cell BK5.out 3).trans rfl; have ha4 : w6.cell? ⟨g5, 4, none⟩ = some (.bool (shV a0).2.2.2.2.1) := (blk_cell BK5.out 4).trans rfl; have ha5 : w6.cell? ⟨g5, 5, none⟩ = some (.bool (shV a0).2.2.2.2.2) := (blk_cell BK5.out 5).trans rfl) | ((with_reducible refine gate_store (t := 84) (p := 2) (v := .tmp 37) rfl ?_); refine sh_store rfl rfl rfl HB.out BK112.out GE112.out rfl _ _ _ _ _ _ rfl ?_; intro w7 hb hk ho; clear HB BK112 BK5 ha0 ha1 ha2 ha3 ha4 ha5; have HB := Aside0.mk hb; have BK112 := Aside0.mk hk; clear hb hk ho))
    exact bodyPost_ret (results_ct rfl _ _ gb112 84 #[.bool (shV a0).1, .bool (shV a0).2.1, .bool (shV a0).2.2.1, .bool (shV a0).2.2.2.1, .bool (shV a0).2.2.2.2.1, .bool (shV a0).2.2.2.2.2] (0, 0) _ rfl BK112.out Try.underlying84 rfl (by kernel_rfl)) rfl ⟨rfl, HB.out⟩
  · rw [if_neg c1] at H
    exact absurd H (by simp)
end

end Go.Proofs.Ytdojcdhlcnlohaa.SFnExactFrameBytes
