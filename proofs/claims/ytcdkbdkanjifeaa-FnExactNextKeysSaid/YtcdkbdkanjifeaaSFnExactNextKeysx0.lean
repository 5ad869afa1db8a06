/- The walk of functions that the law FnExactNextKeys uses, written by program. -/
import Derived.Test.YtcdkbdkanjifeaaProg
import Derived.Below
import Derived.Deep.Draws
import Derived.Deep.AppendLies
import Derived.Maps.AppendAt
import Derived.OwnWalk
import Derived.Laws.BytesArg
import Derived.Laws.MakeOwn
import Derived.Laws.OwnMore
import Derived.Deep.OwnRows
import Derived.Tactics
import Derived.Lib.ConvBytes
import Derived.Laws.Slices
import Derived.WalkKit
import Derived.KernelRfl
import Derived.RowKit3
import Derived.Deep.LoopGhost
import Derived.Deep.QuietTactic
import Derived.BigQuiet
import Derived.WideLaws
import Derived.Deep.DeepCutAuto
import Derived.Deep.CutBlock
import Derived.Deep.RegionHeld3
import Derived.Laws.Rows
import Derived.Lib.AppendStr
import Derived.ArgAppend
import Derived.Laws.IdiomCopy
import Derived.OrdersHeld
import Derived.Laws.BitsLemmas
import Derived.RowKit
import Derived.Test.YtcdkbdkanjifeaaUWords
import Derived.Test.YtcdkbdkanjifeaaULast
import Derived.Test.YtcdkbdkanjifeaaUTab
import Derived.Test.YtcdkbdkanjifeaaUFour
import Derived.Test.YtcdkbdkanjifeaaUQPut
import Derived.Test.YtcdkbdkanjifeaaUApart
import Derived.Test.YtcdkbdkanjifeaaUArr
import Derived.Test.YtcdkbdkanjifeaaUZeros
import Derived.Test.YtcdkbdkanjifeaaUFoot
import Derived.Test.YtcdkbdkanjifeaaUKept
import Derived.Test.YtcdkbdkanjifeaaUShare
import Derived.Test.YtcdkbdkanjifeaaUN
import Derived.Test.YtcdkbdkanjifeaaUFootNe
import Derived.Test.YtcdkbdkanjifeaaUAt
import Derived.Test.YtcdkbdkanjifeaaUEqStruct
import Derived.Test.YtcdkbdkanjifeaaURepsOne
import Derived.Test.YtcdkbdkanjifeaaUInv
import Derived.Test.YtcdkbdkanjifeaaUInvWords
import Derived.Test.YtcdkbdkanjifeaaUGuard
import Derived.Test.YtcdkbdkanjifeaaUNEv
import Derived.Test.YtcdkbdkanjifeaaUMore
import Derived.Lib.ConvBytes
import Derived.ArgAppend
namespace Go.Proofs.Ytcdkbdkanjifeaa.SFnExactNextKeys
open Go.RowKit Go.Proofs.YtcdkbdkanjifeaaW.PrintWords Go.Proofs.YtcdkbdkanjifeaaW.PrintLast Go.Proofs.YtcdkbdkanjifeaaW.PrintMore
attribute [local go_sem] max2_int min2_int max_two min_two max_three min_three max_four min_four   -- for this text's walks alone
set_option linter.unusedVariables false
set_option linter.unusedSimpArgs false



def errW : Option Int → Value
  | none => .nilIface
  | some c => .iface 0 (.int .i64 c)
theorem errW_none : errW none = .nilIface := rfl
theorem errW_some (c : Int) : errW (some c) = .iface 0 (.int .i64 c) := rfl

theorem info5 : (Try.prog.info? 5).map (fun i => (i.zero, i.size, i.bytes)) = some (some (.int .u8 0), 1, 1) := by kernel_rfl
-- the values' own types
/-! The bytes of a string, with a number behind them -/
def sbytes (s : ByteArray) : List Int := s.data.toList.map fun b => (b.toNat : Int)
theorem sbytes_length (s : ByteArray) : (sbytes s).length = s.size := by simp [sbytes]
/-- Block b holds a string's bytes, as a conversion leaves them. -/
structure ConvB (W w1 : World) (b cp : Nat) (s : ByteArray) : Prop where
  bel : Below W.heap.size W w1
  ge : W.heap.size ≤ b
  blk : ∃ cs : Array Value, w1.heap[b]? = some (.cells cs 5 (cs.size, cs.size + 1)) ∧ cp ≤ cs.size ∧ ∀ (j : Nat) (u : Int), (sbytes s)[j]? = some u → cs[j]? = some (Value.int .u8 u)
section
variable {ops : Array Oper} {rest : List Oper} {o : Oper} {a : Act} {Q : Exit → Act → World → Prop}
theorem conv_event {W : World} {N : Tmp} {x : Operand} {s : ByteArray} (hg : o.guard = none) (hop : o.op = Op.convert 9 22 x) (hd : o.dst = some N) (hx : a.eval x = .string s)
    (h : ∀ w1 b cp, ConvB W w1 b cp s → wpList Try.prog ops Q rest (a.put (some N) (.slice (some ⟨b, 0, none⟩) s.size cp)) w1) : wpList Try.prog ops Q (o :: rest) a W := by
  refine wpList_plain hg fun K' hK' => ?_
  have hrun := Go.Lib.run_convert_string_bytes (P := Try.prog) W 9 22 5 s Try.underlying9 Try.underlying22 Try.underlying5
  unfold Oper.wp
  simp only [execOp, hop, hx]
  simp [hrun, Result.andThen]
  show K' (a.put o.dst _) _
  rw [hd]
  refine hK' _ _ (h _ _ _ ⟨⟨rfl, rfl, rfl, by rw [Go.Lib.bytesWorld_size]; omega, fun i hi => Go.Lib.bytesWorld_at_old W 5 s i hi⟩, Nat.le_refl _, Go.Lib.bytesCells W 5 s, Go.Lib.bytesWorld_at_new W 5 s, ?_, fun j u hj => ?_⟩)
  · simp [Go.Lib.bytesCells]
    have : s.data.size = s.size := rfl
    omega
  · have hlt : j < s.size := by
      have := (List.getElem?_eq_some_iff.1 hj).1
      rwa [sbytes_length] at this
    have hc := Go.Lib.bytesWorld_cell W 5 s j hlt
    rw [cell_of_row _ _ j _ 5 _ (Go.Lib.bytesWorld_at_new W 5 s)] at hc
    rw [hc]
    have e : (sbytes s)[j]? = some ((s.data.toList.getD j 0).toNat : Int) := by
      simp only [sbytes, List.getElem?_map]
      rw [List.getD_eq_getElem?_getD, List.getElem?_eq_getElem (by simpa using hlt)]
      rfl
    rw [e] at hj
    cases hj
    rfl
theorem app_event {W w1 : World} {b cp : Nat} {s : ByteArray} {x : Int} {N : Tmp} {p q : Operand} (hg : o.guard = none) (hop : o.op = Op.call { callee := Callee.builtin Builtin.append, args := #[p, q], argTypes := #[22, 22] }) (hd : o.dst = some N)
    (CV : ConvB W w1 b cp s) (hs : s.size < 140737488355327) (hp : a.eval p = .slice (some ⟨b, 0, none⟩) s.size cp) (hq : a.eval q = .slice (some ⟨w1.heap.size, 0, none⟩) 1 1)
    (h : ∀ w3 A c, Kd.C (Kd.int .u8) w3 A (sbytes s ++ [x]).length (sbytes s ++ [x]) → (sbytes s ++ [x]).length ≤ c → Below W.heap.size W w3 → wpList Try.prog ops Q rest (a.put (some N) (.slice A (sbytes s ++ [x]).length c)) w3) :
    wpList Try.prog ops Q (o :: rest) a (w1.alloc (.cells #[.int .u8 x] 5)) := by
  obtain ⟨hbel, hge, cs, hblk, hcp, hcs⟩ := CV
  obtain ⟨i0, hi, hz0, hz1, hz2⟩ := info_parts info5
  have hlt : b < w1.heap.size := (Array.getElem?_eq_some_iff.1 hblk).1
  have hlen : (sbytes s ++ [x]).length = s.size + 1 := by rw [List.length_append, sbytes_length]; rfl
  have hblk' : (w1.alloc (.cells #[.int .u8 x] 5)).heap[b]? = some (.cells cs 5 (cs.size, cs.size + 1)) := blk_alloc hblk _
  have hnew : (w1.alloc (.cells #[.int .u8 x] 5)).heap[w1.heap.size]? = some (.cells #[.int .u8 x] 5) := blk_new w1 _
  have hb2 : Below W.heap.size W (w1.alloc (.cells #[.int .u8 x] 5)) := below_alloc hbel _
  refine wpList_append_arg (P := Try.prog) _ hg p q 22 hop 5 i0 (.int .u8 0) 1 1 Try.underlying22 hi hz0 hz1 hz2 rfl (by decide) b 0 s.size cp ((sbytes s).map (Value.int .u8)) hp (by rw [List.length_map, sbytes_length, Nat.mul_one]) (fun j u hj => ?_)
    ⟨w1.heap.size, 0, none⟩ 1 1 [.int .u8 x] hq rfl (fun j u hj => ?_) (fun u hu => ?_) (fun hr j hj => ?_) (by unfold maxLen; omega) (by omega) (fun hr => ?_) (fun hr v' w' hown hgr => ?_)
  · rw [List.getElem?_map] at hj
    obtain ⟨y, hy, rfl⟩ := Option.map_eq_some_iff.1 hj
    rw [Nat.zero_add, cell_of_row _ _ j _ 5 _ hblk']
    exact hcs j y hy
  · have hj0 : j = 0 := by
      have := (List.getElem?_eq_some_iff.1 hj).1
      simp at this
      omega
    subst hj0
    rw [add_plain, cell_of_row _ _ 0 _ 5 _ hnew]
    simpa using hj
  · simp at hu
    subst hu
    rfl
  · have hj0 : j = 0 := by simp at hj; omega
    subst hj0
    refine ⟨?_, ?_⟩
    · rw [cell_of_row _ _ _ _ 5 _ hblk']
      rw [Array.getElem?_eq_getElem (by omega)]
      rfl
    · simp [World.frozen?, hblk']
      omega
  · rw [hd]
    have hset : ((w1.alloc (.cells #[.int .u8 x] 5)).setCells b (0 + s.size * 1) [.int .u8 x]) = (w1.alloc (.cells #[.int .u8 x] 5)).setCell ⟨b, s.size, none⟩ (.int .u8 x) := by simp [World.setCells]
    rw [hset, show s.size + 1 = (sbytes s ++ [x]).length from hlen.symm]
    refine h _ _ _ (Kd.C_of_reads (d := (0 : Int)) (h1 := fun _ => rfl) ⟨rfl, by rw [hlen]; omega, fun _ => ⟨_, rfl, fun j hj => ?_⟩⟩) (by rw [hlen]; omega) (below_set hb2 hge)
    rw [add_plain]
    have hat : ((w1.alloc (.cells #[.int .u8 x] 5)).setCell ⟨b, s.size, none⟩ (.int .u8 x)).heap[b]? = some (.cells (cs.setIfInBounds s.size (.int .u8 x)) 5 (cs.size, cs.size + 1)) := by
      simp [World.setCell, Array.getElem?_modify, hblk']
    rw [cell_of_row _ _ j _ 5 _ hat, Array.getElem?_setIfInBounds]
    by_cases e : s.size = j
    · rw [if_pos e, if_pos (by omega)]
      subst e
      rw [List.getD_eq_getElem?_getD, List.getElem?_append_right (by rw [sbytes_length]; exact Nat.le_refl _), sbytes_length]
      simp
    · rw [if_neg e]
      have hjl : j < (sbytes s).length := by rw [sbytes_length]; omega
      rw [hcs j _ (List.getElem?_eq_getElem hjl), List.getD_eq_getElem?_getD, List.getElem?_append_left hjl, List.getElem?_eq_getElem hjl]
      rfl
  · rw [hd]
    have hown' : w'.ownsRow (w1.alloc (.cells #[.int .u8 x] 5)).heap.size 5 1 v' (sbytes s ++ [x]).length (encs (Value.int .u8) (sbytes s ++ [x])) := by
      rw [hlen]
      simpa [encs] using hown
    have hR := Kd.R_of_own (h1 := fun _ => rfl) hown' (ok := fun _ => True) (fun _ _ => trivial)
    obtain ⟨Ar, cr, er⟩ := Kd.R_slice hR
    subst er
    obtain ⟨-, hc, hC⟩ := Kd.R_reads' hR
    exact h _ _ _ hC hc (pw_below_grown hb2 none hb2.size hgr (fun k hk => by cases hk))
end

end Go.Proofs.Ytcdkbdkanjifeaa.SFnExactNextKeys
