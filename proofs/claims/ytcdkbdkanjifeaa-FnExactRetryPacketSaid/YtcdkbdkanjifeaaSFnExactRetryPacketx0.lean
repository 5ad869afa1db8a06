/- The walk of functions that the law FnExactRetryPacket uses, written by program. -/
import Derived.Test.YtcdkbdkanjifeaaProg
import Derived.Below
import Derived.Deep.Draws
import Derived.Deep.AppendLies
import Derived.Maps.AppendAt
import Derived.OwnWalk
import Derived.Laws.BytesArg
import Derived.Laws.MakeOwn
import Derived.Laws.OwnMore
import Derived.Deep.OwnRows
import Derived.Tactics
import Derived.Lib.ConvBytes
import Derived.Laws.Slices
import Derived.WalkKit
import Derived.KernelRfl
import Derived.RowKit3
import Derived.Deep.LoopGhost
import Derived.Deep.QuietTactic
import Derived.BigQuiet
import Derived.WideLaws
import Derived.Deep.DeepCutAuto
import Derived.Deep.CutBlock
import Derived.Deep.RegionHeld3
import Derived.Laws.Rows
import Derived.Lib.AppendStr
import Derived.ArgAppend
import Derived.Laws.IdiomCopy
import Derived.OrdersHeld
import Derived.Laws.BitsLemmas
import Derived.RowKit
import Derived.Test.YtcdkbdkanjifeaaWWords
import Derived.Test.YtcdkbdkanjifeaaWLast
import Derived.Test.YtcdkbdkanjifeaaWTab
import Derived.Test.YtcdkbdkanjifeaaWFour
import Derived.Test.YtcdkbdkanjifeaaWQPut
import Derived.Test.YtcdkbdkanjifeaaWApart
import Derived.Test.YtcdkbdkanjifeaaWArr
import Derived.Test.YtcdkbdkanjifeaaWZeros
import Derived.Test.YtcdkbdkanjifeaaWFoot
import Derived.Test.YtcdkbdkanjifeaaWKept
import Derived.Test.YtcdkbdkanjifeaaWShare
import Derived.Test.YtcdkbdkanjifeaaWN
import Derived.Test.YtcdkbdkanjifeaaWFootNe
import Derived.Test.YtcdkbdkanjifeaaWAt
import Derived.Test.YtcdkbdkanjifeaaWEqStruct
import Derived.Test.YtcdkbdkanjifeaaWRepsOne
import Derived.Test.YtcdkbdkanjifeaaWInv
import Derived.Test.YtcdkbdkanjifeaaWInvWords
import Derived.Test.YtcdkbdkanjifeaaWGuard
import Derived.Test.YtcdkbdkanjifeaaWNEv
import Derived.Test.YtcdkbdkanjifeaaWMore
import Derived.Lib.ConvBytes
import Derived.ArgAppend
import Derived.Lib.SlBytesConst
namespace Go.Proofs.Ytcdkbdkanjifeaa.SFnExactRetryPacket
open Go.RowKit Go.Proofs.YtcdkbdkanjifeaaW.PrintWords Go.Proofs.YtcdkbdkanjifeaaW.PrintLast Go.Proofs.YtcdkbdkanjifeaaW.PrintMore
attribute [local go_sem] max2_int min2_int max_two min_two max_three min_three max_four min_four   -- for this text's walks alone
set_option linter.unusedVariables false
set_option linter.unusedSimpArgs false



def errW : Option Int → Value
  | none => .nilIface
  | some c => .iface 0 (.int .i64 c)
theorem errW_none : errW none = .nilIface := rfl
theorem errW_some (c : Int) : errW (some c) = .iface 0 (.int .i64 c) := rfl

theorem info5 : (Try.prog.info? 5).map (fun i => (i.zero, i.size, i.bytes)) = some (some (.int .u8 0), 1, 1) := by kernel_rfl
-- the values' own types
/-! A constant's bytes: the literal's row, marked behind its last cell -/
/-- Block b holds the five bytes, marked. -/
def MarkB (w : World) (b : Nat) (xs : List Int) : Prop := w.heap[b]? = some (.cells (xs.map (Value.int .u8)).toArray 5 (xs.length, xs.length + 1))
theorem MarkB.C {w : World} {b : Nat} {xs : List Int} (h : MarkB w b xs) (hl : xs.length ≤ 9223372036854775807) : Kd.C (Kd.int .u8) w (some ⟨b, 0, none⟩) xs.length xs := by
  refine Kd.C_of_reads (d := (0 : Int)) (h1 := fun _ => rfl) ⟨rfl, ?_, fun _ => ⟨_, rfl, fun j hj => ?_⟩⟩
  · exact hl
  · rw [add_plain, cell_of_row _ _ j _ 5 _ h]
    simp [List.getElem?_map, List.getD_eq_getElem?_getD, List.getElem?_eq_getElem hj]
theorem MarkB.kept {w w1 : World} {b : Nat} {xs : List Int} {row : Option Nat} (h : MarkB w b xs) (hg : w.grownBy w1 row) (hne : some b ≠ row) : MarkB w1 b xs := by
  show w1.heap[b]? = _
  rw [hg.block b (Array.getElem?_eq_some_iff.1 h).1 hne]
  exact h
section
variable {ops : Array Oper} {rest : List Oper} {o : Oper} {a : Act} {Q : Exit → Act → World → Prop}
theorem mark_event {W W0 : World} {base' : Nat} {ok : Nat → Prop} {v : Value} {ys xs : List Int} {N : Tmp} {x : Operand} (hg : o.guard = none) (hop : o.op = Op.convert 22 22 x) (hd : o.dst = some N) (hxs : xs = [114, 101, 116, 114, 121])
    (hx : a.eval x = .slice (some ⟨W.heap.size, 0, none⟩) 5 5) (HO : Kd.R (Kd.int .u8) 5 W base' ok v ys) (HB : Below W0.heap.size W0 W)
    (h : ∀ w1 b, MarkB w1 b xs → some b ≠ v.ownBlock → Kd.R (Kd.int .u8) 5 w1 base' ok v ys → Below W0.heap.size W0 w1 → wpList Try.prog ops Q rest (a.put (some N) (.slice (some ⟨b, 0, none⟩) xs.length 5)) w1) :
    wpList Try.prog ops Q (o :: rest) a (W.alloc (.cells #[.int .u8 114, .int .u8 101, .int .u8 116, .int .u8 114, .int .u8 121] 5)) := by
  subst hxs
  refine wpList_plain hg fun K' hK' => ?_
  have hrun := Go.Lib.run_convert_bytes_const (P := Try.prog) W 22 5 #[.int .u8 114, .int .u8 101, .int .u8 116, .int .u8 114, .int .u8 121] 5 5 Try.underlying22 Try.underlying5
  unfold Oper.wp
  simp only [execOp, hop, hx]
  simp [hrun, Result.andThen]
  show K' (a.put o.dst _) _
  rw [hd]
  refine hK' _ _ (h _ _ (blk_new W _) (fun e => ?_) (Kd.R_alloc HO _) (below_alloc HB _))
  have := Kd.R_lt HO _ e.symm
  omega
end

end Go.Proofs.Ytcdkbdkanjifeaa.SFnExactRetryPacket
