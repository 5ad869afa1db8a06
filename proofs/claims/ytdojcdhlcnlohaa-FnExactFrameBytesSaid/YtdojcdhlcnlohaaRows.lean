/-
  No cell of these rows narrows 'for every input' (looked for: loops, veiled, ifaces, maps, wideKeys, modest, calm, conditions, laid).
  DERIVED. THE GIVEN ROWS OF THIS SEAT. 11 by the template 'for every input the law returns true; each argument reads behind the call as it read before'; 0 by the template 'total and deterministic' (their statements: YtdojcdhlcnlohaaTotals.lean).
  GIVEN WITH THE SEED: the statements are not yours to turn. If you find one false, say at which input.
  Laid BY PROGRAM, IN A SANDBOX (cutbox-rows.mjs): the forced cells as the released guide's own fill.sh prints them over the translation 41616326e0b4d92f… (all of the seat's roots in one cut). By AI agents, Wed Nov 11 2026. No macro, syntax, notation, axiom, sorry.
-/
import Derived.Test.YtdojcdhlcnlohaaChecked
import GoSem.Claim
import GoSem.ClaimJoined
import GoSem.ClaimMapViews
import Derived.JoinedTies
import Derived.KernelRfl
namespace Go.Proofs.Ytdojcdhlcnlohaa
/- THE CELL 'sum', in the pinned program and in every row, IS THE sha256 OF THE DUMP (.gsa) THAT YtdojcdhlcnlohaaProg.lean LOADS. Nothing in Lean hashes anything: it is a label: what it is worth is what the hold of that sum in a sandbox is worth. -/
noncomputable def Try.pinned : Pinned := { name := "ytdojcdhlcnlohaa", sum := "41616326e0b4d92fac6f4fda2e63fd3795cda6f7b6f1eb1dce0e339c1798b55e", checked := Try.checked }
namespace Rows
def none {H : Type} : Left H := { results := [], args := [] }

/-- 'laws.FnExactPutVar': WHATEVER THE INPUT: true; the input reads as it did. -/
def fnExactPutVarSpec : ChangeSpec := { name := "fnExactPutVar", fn := fun _ => fun
  | [d] => { results := [.lit (.bool true)], args := [d] }
  | _ => none }
def fnExactPutVarRow : OpenClaim := { program := "ytdojcdhlcnlohaa", sum := "41616326e0b4d92fac6f4fda2e63fd3795cda6f7b6f1eb1dce0e339c1798b55e", func := "loop.example/g00012/laws.FnExactPutVar", spec := "fnExactPutVar", recurses := true, apart := false }
def FnExactPutVarSaid : Prop := fnExactPutVarRow.holds Try.pinned (OpenSpec.ofChange fnExactPutVarSpec)

/-- ITS FALSE NEIGHBOUR: 'it returns false'. Refute it at one input. -/
def fnExactPutVarWrong : ChangeSpec := { name := "fnExactPutVar", fn := fun _ => fun
  | [d] => { results := [.lit (.bool false)], args := [d] }
  | _ => none }
def FnExactPutVarWrongFalsely : Prop := fnExactPutVarRow.holds Try.pinned (OpenSpec.ofChange fnExactPutVarWrong)

/-- 'laws.FnExactPutVars': WHATEVER THE INPUT: true; the input reads as it did. -/
def fnExactPutVarsSpec : ChangeSpec := { name := "fnExactPutVars", fn := fun _ => fun
  | [d] => { results := [.lit (.bool true)], args := [d] }
  | _ => none }
def fnExactPutVarsRow : OpenClaim := { program := "ytdojcdhlcnlohaa", sum := "41616326e0b4d92fac6f4fda2e63fd3795cda6f7b6f1eb1dce0e339c1798b55e", func := "loop.example/g00012/laws.FnExactPutVars", spec := "fnExactPutVars", recurses := true, apart := false }
def FnExactPutVarsSaid : Prop := fnExactPutVarsRow.holds Try.pinned (OpenSpec.ofChange fnExactPutVarsSpec)

/-- ITS FALSE NEIGHBOUR: 'it returns false'. Refute it at one input. -/
def fnExactPutVarsWrong : ChangeSpec := { name := "fnExactPutVars", fn := fun _ => fun
  | [d] => { results := [.lit (.bool false)], args := [d] }
  | _ => none }
def FnExactPutVarsWrongFalsely : Prop := fnExactPutVarsRow.holds Try.pinned (OpenSpec.ofChange fnExactPutVarsWrong)

/-- 'laws.FnExactGetVars': WHATEVER THE INPUT: true; the input reads as it did. -/
def fnExactGetVarsSpec : ChangeSpec := { name := "fnExactGetVars", fn := fun _ => fun
  | [d] => { results := [.lit (.bool true)], args := [d] }
  | _ => none }
def fnExactGetVarsRow : OpenClaim := { program := "ytdojcdhlcnlohaa", sum := "41616326e0b4d92fac6f4fda2e63fd3795cda6f7b6f1eb1dce0e339c1798b55e", func := "loop.example/g00012/laws.FnExactGetVars", spec := "fnExactGetVars", unfollowed := true, recurses := true, apart := false }
def FnExactGetVarsSaid : Prop := fnExactGetVarsRow.holds Try.pinned (OpenSpec.ofChange fnExactGetVarsSpec)

/-- ITS FALSE NEIGHBOUR: 'it returns false'. Refute it at one input. -/
def fnExactGetVarsWrong : ChangeSpec := { name := "fnExactGetVars", fn := fun _ => fun
  | [d] => { results := [.lit (.bool false)], args := [d] }
  | _ => none }
def FnExactGetVarsWrongFalsely : Prop := fnExactGetVarsRow.holds Try.pinned (OpenSpec.ofChange fnExactGetVarsWrong)

/-- 'laws.FnExactHeadBytes': WHATEVER THE INPUT: true; the input reads as it did. -/
def fnExactHeadBytesSpec : ChangeSpec := { name := "fnExactHeadBytes", fn := fun _ => fun
  | [d1, d2] => { results := [.lit (.bool true)], args := [d1, d2] }
  | _ => none }
def fnExactHeadBytesRow : OpenClaim := { program := "ytdojcdhlcnlohaa", sum := "41616326e0b4d92fac6f4fda2e63fd3795cda6f7b6f1eb1dce0e339c1798b55e", func := "loop.example/g00012/laws.FnExactHeadBytes", spec := "fnExactHeadBytes", recurses := true, apart := false }
def FnExactHeadBytesSaid : Prop := fnExactHeadBytesRow.holds Try.pinned (OpenSpec.ofChange fnExactHeadBytesSpec)

/-- ITS FALSE NEIGHBOUR: 'it returns false'. Refute it at one input. -/
def fnExactHeadBytesWrong : ChangeSpec := { name := "fnExactHeadBytes", fn := fun _ => fun
  | [d1, d2] => { results := [.lit (.bool false)], args := [d1, d2] }
  | _ => none }
def FnExactHeadBytesWrongFalsely : Prop := fnExactHeadBytesRow.holds Try.pinned (OpenSpec.ofChange fnExactHeadBytesWrong)

/-- 'laws.FnExactAsks': WHATEVER THE INPUT: true; the input reads as it did. -/
def fnExactAsksSpec : ChangeSpec := { name := "fnExactAsks", fn := fun _ => fun
  | [d] => { results := [.lit (.bool true)], args := [d] }
  | _ => none }
def fnExactAsksRow : OpenClaim := { program := "ytdojcdhlcnlohaa", sum := "41616326e0b4d92fac6f4fda2e63fd3795cda6f7b6f1eb1dce0e339c1798b55e", func := "loop.example/g00012/laws.FnExactAsks", spec := "fnExactAsks", apart := false }
def FnExactAsksSaid : Prop := fnExactAsksRow.holds Try.pinned (OpenSpec.ofChange fnExactAsksSpec)

/-- ITS FALSE NEIGHBOUR: 'it returns false'. Refute it at one input. -/
def fnExactAsksWrong : ChangeSpec := { name := "fnExactAsks", fn := fun _ => fun
  | [d] => { results := [.lit (.bool false)], args := [d] }
  | _ => none }
def FnExactAsksWrongFalsely : Prop := fnExactAsksRow.holds Try.pinned (OpenSpec.ofChange fnExactAsksWrong)

/-- 'laws.FnExactFrameFits': WHATEVER THE INPUT: true; the input reads as it did. -/
def fnExactFrameFitsSpec : ChangeSpec := { name := "fnExactFrameFits", fn := fun _ => fun
  | [d1, d2] => { results := [.lit (.bool true)], args := [d1, d2] }
  | _ => none }
def fnExactFrameFitsRow : OpenClaim := { program := "ytdojcdhlcnlohaa", sum := "41616326e0b4d92fac6f4fda2e63fd3795cda6f7b6f1eb1dce0e339c1798b55e", func := "loop.example/g00012/laws.FnExactFrameFits", spec := "fnExactFrameFits", apart := false }
def FnExactFrameFitsSaid : Prop := fnExactFrameFitsRow.holds Try.pinned (OpenSpec.ofChange fnExactFrameFitsSpec)

/-- ITS FALSE NEIGHBOUR: 'it returns false'. Refute it at one input. -/
def fnExactFrameFitsWrong : ChangeSpec := { name := "fnExactFrameFits", fn := fun _ => fun
  | [d1, d2] => { results := [.lit (.bool false)], args := [d1, d2] }
  | _ => none }
def FnExactFrameFitsWrongFalsely : Prop := fnExactFrameFitsRow.holds Try.pinned (OpenSpec.ofChange fnExactFrameFitsWrong)

/-- 'laws.FnExactFrameOK': WHATEVER THE INPUT: true; the input reads as it did. -/
def fnExactFrameOKSpec : ChangeSpec := { name := "fnExactFrameOK", fn := fun _ => fun
  | [d] => { results := [.lit (.bool true)], args := [d] }
  | _ => none }
def fnExactFrameOKRow : OpenClaim := { program := "ytdojcdhlcnlohaa", sum := "41616326e0b4d92fac6f4fda2e63fd3795cda6f7b6f1eb1dce0e339c1798b55e", func := "loop.example/g00012/laws.FnExactFrameOK", spec := "fnExactFrameOK", apart := false }
def FnExactFrameOKSaid : Prop := fnExactFrameOKRow.holds Try.pinned (OpenSpec.ofChange fnExactFrameOKSpec)

/-- ITS FALSE NEIGHBOUR: 'it returns false'. Refute it at one input. -/
def fnExactFrameOKWrong : ChangeSpec := { name := "fnExactFrameOK", fn := fun _ => fun
  | [d] => { results := [.lit (.bool false)], args := [d] }
  | _ => none }
def FnExactFrameOKWrongFalsely : Prop := fnExactFrameOKRow.holds Try.pinned (OpenSpec.ofChange fnExactFrameOKWrong)

/-- 'laws.FnExactFrameBytes': WHATEVER THE INPUT: true; the input reads as it did. -/
def fnExactFrameBytesSpec : ChangeSpec := { name := "fnExactFrameBytes", fn := fun _ => fun
  | [d] => { results := [.lit (.bool true)], args := [d] }
  | _ => none }
def fnExactFrameBytesRow : OpenClaim := { program := "ytdojcdhlcnlohaa", sum := "41616326e0b4d92fac6f4fda2e63fd3795cda6f7b6f1eb1dce0e339c1798b55e", func := "loop.example/g00012/laws.FnExactFrameBytes", spec := "fnExactFrameBytes", recurses := true, apart := false }
def FnExactFrameBytesSaid : Prop := fnExactFrameBytesRow.holds Try.pinned (OpenSpec.ofChange fnExactFrameBytesSpec)

/-- ITS FALSE NEIGHBOUR: 'it returns false'. Refute it at one input. -/
def fnExactFrameBytesWrong : ChangeSpec := { name := "fnExactFrameBytes", fn := fun _ => fun
  | [d] => { results := [.lit (.bool false)], args := [d] }
  | _ => none }
def FnExactFrameBytesWrongFalsely : Prop := fnExactFrameBytesRow.holds Try.pinned (OpenSpec.ofChange fnExactFrameBytesWrong)

/-- 'laws.FnExactAckedBy': WHATEVER THE INPUT: true; the input reads as it did. -/
def fnExactAckedBySpec : ChangeSpec := { name := "fnExactAckedBy", fn := fun _ => fun
  | [d1, d2] => { results := [.lit (.bool true)], args := [d1, d2] }
  | _ => none }
def fnExactAckedByRow : OpenClaim := { program := "ytdojcdhlcnlohaa", sum := "41616326e0b4d92fac6f4fda2e63fd3795cda6f7b6f1eb1dce0e339c1798b55e", func := "loop.example/g00012/laws.FnExactAckedBy", spec := "fnExactAckedBy", apart := false }
def FnExactAckedBySaid : Prop := fnExactAckedByRow.holds Try.pinned (OpenSpec.ofChange fnExactAckedBySpec)

/-- ITS FALSE NEIGHBOUR: 'it returns false'. Refute it at one input. -/
def fnExactAckedByWrong : ChangeSpec := { name := "fnExactAckedBy", fn := fun _ => fun
  | [d1, d2] => { results := [.lit (.bool false)], args := [d1, d2] }
  | _ => none }
def FnExactAckedByWrongFalsely : Prop := fnExactAckedByRow.holds Try.pinned (OpenSpec.ofChange fnExactAckedByWrong)

/-- 'laws.FnExactVersionsPacket': WHATEVER THE INPUT: true; the input reads as it did. -/
def fnExactVersionsPacketSpec : ChangeSpec := { name := "fnExactVersionsPacket", fn := fun _ => fun
  | [d1, d2, d3] => { results := [.lit (.bool true)], args := [d1, d2, d3] }
  | _ => none }
def fnExactVersionsPacketRow : OpenClaim := { program := "ytdojcdhlcnlohaa", sum := "41616326e0b4d92fac6f4fda2e63fd3795cda6f7b6f1eb1dce0e339c1798b55e", func := "loop.example/g00012/laws.FnExactVersionsPacket", spec := "fnExactVersionsPacket", recurses := true, apart := false }
def FnExactVersionsPacketSaid : Prop := fnExactVersionsPacketRow.holds Try.pinned (OpenSpec.ofChange fnExactVersionsPacketSpec)

/-- ITS FALSE NEIGHBOUR: 'it returns false'. Refute it at one input. -/
def fnExactVersionsPacketWrong : ChangeSpec := { name := "fnExactVersionsPacket", fn := fun _ => fun
  | [d1, d2, d3] => { results := [.lit (.bool false)], args := [d1, d2, d3] }
  | _ => none }
def FnExactVersionsPacketWrongFalsely : Prop := fnExactVersionsPacketRow.holds Try.pinned (OpenSpec.ofChange fnExactVersionsPacketWrong)

/-- 'laws.FnNumbers': WHATEVER THE INPUT: true; the input reads as it did. -/
def fnNumbersSpec : ChangeSpec := { name := "fnNumbers", fn := fun _ => fun
  | [d1, d2] => { results := [.lit (.bool true)], args := [d1, d2] }
  | _ => none }
def fnNumbersRow : OpenClaim := { program := "ytdojcdhlcnlohaa", sum := "41616326e0b4d92fac6f4fda2e63fd3795cda6f7b6f1eb1dce0e339c1798b55e", func := "loop.example/g00012/laws.FnNumbers", spec := "fnNumbers", apart := false }
def FnNumbersSaid : Prop := fnNumbersRow.holds Try.pinned (OpenSpec.ofChange fnNumbersSpec)

/-- ITS FALSE NEIGHBOUR: 'it returns false'. Refute it at one input. -/
def fnNumbersWrong : ChangeSpec := { name := "fnNumbers", fn := fun _ => fun
  | [d1, d2] => { results := [.lit (.bool false)], args := [d1, d2] }
  | _ => none }
def FnNumbersWrongFalsely : Prop := fnNumbersRow.holds Try.pinned (OpenSpec.ofChange fnNumbersWrong)

/- THE SECOND FORM. 'bulk': how many values and letters a reading holds, each counted each time it is reached (what is shared counts as often as it is met; a slice's spare places count too). A statement '..UptoSaid' is the law's where the arguments, and the package variables that the reading takes, are together of bulk at most 1048576: NARROWER than '..Said'. Prove '..Said' where nothing that the law and all that it calls make is longer than what came in: it says more and counts as full. Else prove '..UptoSaid'. A law counts once. -/
mutual
def uptoBulk {H : Type} : DataW H → Nat
  | .lit (.string bytes) => bytes.length + 1
  | .lit _ => 1
  | .nil => 1
  | .ptr d => uptoBulk d + 1
  | .slice elems spare => uptoBulkAll elems + uptoBulkAll spare + 1
  | .agg parts => uptoBulkAll parts + 1
  | .iface _ d => uptoBulk d + 1
  | .map entries => uptoBulkEntries entries + 1
  | .held _ => 1
def uptoBulkAll {H : Type} : List (DataW H) → Nat
  | [] => 0
  | d :: r => uptoBulk d + uptoBulkAll r
def uptoBulkEntries {H : Type} : List (Lit × DataW H) → Nat
  | [] => 0
  | x :: r => uptoBulkEntry x + uptoBulkEntries r
def uptoBulkEntry {H : Type} : Lit × DataW H → Nat
  | (.string bytes, d) => bytes.length + uptoBulk d + 1
  | (_, d) => uptoBulk d + 1
 end
def uptoSmall : (H : Type) → List (DataW H) → Bool := fun _ ds => decide (uptoBulkAll ds ≤ 1048576)
def OpenSpec.upto (s : _root_.Go.ChangeSpec) : _root_.Go.OpenSpec := { _root_.Go.OpenSpec.ofChange s with cond := some uptoSmall }

/-- 'laws.FnExactPutVar', WHERE WHAT IT READS IS OF BULK AT MOST 1048576: true; the input reads as it did. -/
def fnExactPutVarUptoRow : OpenClaim := { program := "ytdojcdhlcnlohaa", sum := "41616326e0b4d92fac6f4fda2e63fd3795cda6f7b6f1eb1dce0e339c1798b55e", func := "loop.example/g00012/laws.FnExactPutVar", spec := "fnExactPutVar", recurses := true, apart := false, narrowed := true }
def FnExactPutVarUptoSaid : Prop := fnExactPutVarUptoRow.holds Try.pinned (OpenSpec.upto fnExactPutVarSpec)

/-- 'laws.FnExactPutVars', WHERE WHAT IT READS IS OF BULK AT MOST 1048576: true; the input reads as it did. -/
def fnExactPutVarsUptoRow : OpenClaim := { program := "ytdojcdhlcnlohaa", sum := "41616326e0b4d92fac6f4fda2e63fd3795cda6f7b6f1eb1dce0e339c1798b55e", func := "loop.example/g00012/laws.FnExactPutVars", spec := "fnExactPutVars", recurses := true, apart := false, narrowed := true }
def FnExactPutVarsUptoSaid : Prop := fnExactPutVarsUptoRow.holds Try.pinned (OpenSpec.upto fnExactPutVarsSpec)

/-- 'laws.FnExactGetVars', WHERE WHAT IT READS IS OF BULK AT MOST 1048576: true; the input reads as it did. -/
def fnExactGetVarsUptoRow : OpenClaim := { program := "ytdojcdhlcnlohaa", sum := "41616326e0b4d92fac6f4fda2e63fd3795cda6f7b6f1eb1dce0e339c1798b55e", func := "loop.example/g00012/laws.FnExactGetVars", spec := "fnExactGetVars", unfollowed := true, recurses := true, apart := false, narrowed := true }
def FnExactGetVarsUptoSaid : Prop := fnExactGetVarsUptoRow.holds Try.pinned (OpenSpec.upto fnExactGetVarsSpec)

/-- 'laws.FnExactHeadBytes', WHERE WHAT IT READS IS OF BULK AT MOST 1048576: true; the input reads as it did. -/
def fnExactHeadBytesUptoRow : OpenClaim := { program := "ytdojcdhlcnlohaa", sum := "41616326e0b4d92fac6f4fda2e63fd3795cda6f7b6f1eb1dce0e339c1798b55e", func := "loop.example/g00012/laws.FnExactHeadBytes", spec := "fnExactHeadBytes", recurses := true, apart := false, narrowed := true }
def FnExactHeadBytesUptoSaid : Prop := fnExactHeadBytesUptoRow.holds Try.pinned (OpenSpec.upto fnExactHeadBytesSpec)

/-- 'laws.FnExactAsks', WHERE WHAT IT READS IS OF BULK AT MOST 1048576: true; the input reads as it did. -/
def fnExactAsksUptoRow : OpenClaim := { program := "ytdojcdhlcnlohaa", sum := "41616326e0b4d92fac6f4fda2e63fd3795cda6f7b6f1eb1dce0e339c1798b55e", func := "loop.example/g00012/laws.FnExactAsks", spec := "fnExactAsks", apart := false, narrowed := true }
def FnExactAsksUptoSaid : Prop := fnExactAsksUptoRow.holds Try.pinned (OpenSpec.upto fnExactAsksSpec)

/-- 'laws.FnExactFrameFits', WHERE WHAT IT READS IS OF BULK AT MOST 1048576: true; the input reads as it did. -/
def fnExactFrameFitsUptoRow : OpenClaim := { program := "ytdojcdhlcnlohaa", sum := "41616326e0b4d92fac6f4fda2e63fd3795cda6f7b6f1eb1dce0e339c1798b55e", func := "loop.example/g00012/laws.FnExactFrameFits", spec := "fnExactFrameFits", apart := false, narrowed := true }
def FnExactFrameFitsUptoSaid : Prop := fnExactFrameFitsUptoRow.holds Try.pinned (OpenSpec.upto fnExactFrameFitsSpec)

/-- 'laws.FnExactFrameOK', WHERE WHAT IT READS IS OF BULK AT MOST 1048576: true; the input reads as it did. -/
def fnExactFrameOKUptoRow : OpenClaim := { program := "ytdojcdhlcnlohaa", sum := "41616326e0b4d92fac6f4fda2e63fd3795cda6f7b6f1eb1dce0e339c1798b55e", func := "loop.example/g00012/laws.FnExactFrameOK", spec := "fnExactFrameOK", apart := false, narrowed := true }
def FnExactFrameOKUptoSaid : Prop := fnExactFrameOKUptoRow.holds Try.pinned (OpenSpec.upto fnExactFrameOKSpec)

/-- 'laws.FnExactFrameBytes', WHERE WHAT IT READS IS OF BULK AT MOST 1048576: true; the input reads as it did. -/
def fnExactFrameBytesUptoRow : OpenClaim := { program := "ytdojcdhlcnlohaa", sum := "41616326e0b4d92fac6f4fda2e63fd3795cda6f7b6f1eb1dce0e339c1798b55e", func := "loop.example/g00012/laws.FnExactFrameBytes", spec := "fnExactFrameBytes", recurses := true, apart := false, narrowed := true }
def FnExactFrameBytesUptoSaid : Prop := fnExactFrameBytesUptoRow.holds Try.pinned (OpenSpec.upto fnExactFrameBytesSpec)

/-- 'laws.FnExactAckedBy', WHERE WHAT IT READS IS OF BULK AT MOST 1048576: true; the input reads as it did. -/
def fnExactAckedByUptoRow : OpenClaim := { program := "ytdojcdhlcnlohaa", sum := "41616326e0b4d92fac6f4fda2e63fd3795cda6f7b6f1eb1dce0e339c1798b55e", func := "loop.example/g00012/laws.FnExactAckedBy", spec := "fnExactAckedBy", apart := false, narrowed := true }
def FnExactAckedByUptoSaid : Prop := fnExactAckedByUptoRow.holds Try.pinned (OpenSpec.upto fnExactAckedBySpec)

/-- 'laws.FnExactVersionsPacket', WHERE WHAT IT READS IS OF BULK AT MOST 1048576: true; the input reads as it did. -/
def fnExactVersionsPacketUptoRow : OpenClaim := { program := "ytdojcdhlcnlohaa", sum := "41616326e0b4d92fac6f4fda2e63fd3795cda6f7b6f1eb1dce0e339c1798b55e", func := "loop.example/g00012/laws.FnExactVersionsPacket", spec := "fnExactVersionsPacket", recurses := true, apart := false, narrowed := true }
def FnExactVersionsPacketUptoSaid : Prop := fnExactVersionsPacketUptoRow.holds Try.pinned (OpenSpec.upto fnExactVersionsPacketSpec)

/-- 'laws.FnNumbers', WHERE WHAT IT READS IS OF BULK AT MOST 1048576: true; the input reads as it did. -/
def fnNumbersUptoRow : OpenClaim := { program := "ytdojcdhlcnlohaa", sum := "41616326e0b4d92fac6f4fda2e63fd3795cda6f7b6f1eb1dce0e339c1798b55e", func := "loop.example/g00012/laws.FnNumbers", spec := "fnNumbers", apart := false, narrowed := true }
def FnNumbersUptoSaid : Prop := fnNumbersUptoRow.holds Try.pinned (OpenSpec.upto fnNumbersSpec)

end Rows
end Go.Proofs.Ytdojcdhlcnlohaa
