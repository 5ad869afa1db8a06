/-
  No cell of these rows narrows 'for every input' (looked for: loops, veiled, ifaces, maps, wideKeys, modest, calm, conditions, laid).
  DERIVED. THE GIVEN ROWS OF THIS SEAT. 12 by the template 'for every input the law returns true; each argument reads behind the call as it read before'; 0 by the template 'total and deterministic' (their statements: YtkfoneckbnggoaaTotals.lean).
  GIVEN WITH THE SEED: the statements are not yours to turn. If you find one false, say at which input.
  Laid BY PROGRAM, IN A SANDBOX (cutbox-rows.mjs): the forced cells as the released guide's own fill.sh prints them over the translation ea9b874ce7962bdf… (all of the seat's roots in one cut). By AI agents, Wed Nov 11 2026. No macro, syntax, notation, axiom, sorry.
-/
import Derived.Test.YtkfoneckbnggoaaChecked
import GoSem.Claim
import GoSem.ClaimJoined
import GoSem.ClaimMapViews
import Derived.JoinedTies
import Derived.KernelRfl
namespace Go.Proofs.Ytkfoneckbnggoaa
/- THE CELL 'sum', in the pinned program and in every row, IS THE sha256 OF THE DUMP (.gsa) THAT YtkfoneckbnggoaaProg.lean LOADS. Nothing in Lean hashes anything: it is a label: what it is worth is what the hold of that sum in a sandbox is worth. -/
noncomputable def Try.pinned : Pinned := { name := "ytkfoneckbnggoaa", sum := "ea9b874ce7962bdf51cd85d3af4ee233dfc00f4a1c689a971b41e5d77a996876", checked := Try.checked }
namespace Rows
def none {H : Type} : Left H := { results := [], args := [] }

/-- 'laws.FnExactResetPacket': WHATEVER THE INPUT: true; the input reads as it did. -/
def fnExactResetPacketSpec : ChangeSpec := { name := "fnExactResetPacket", fn := fun _ => fun
  | [d1, d2] => { results := [.lit (.bool true)], args := [d1, d2] }
  | _ => none }
def fnExactResetPacketRow : OpenClaim := { program := "ytkfoneckbnggoaa", sum := "ea9b874ce7962bdf51cd85d3af4ee233dfc00f4a1c689a971b41e5d77a996876", func := "loop.example/g00012/laws.FnExactResetPacket", spec := "fnExactResetPacket", apart := false }
def FnExactResetPacketSaid : Prop := fnExactResetPacketRow.holds Try.pinned (OpenSpec.ofChange fnExactResetPacketSpec)

/-- ITS FALSE NEIGHBOUR: 'it returns false'. Refute it at one input. -/
def fnExactResetPacketWrong : ChangeSpec := { name := "fnExactResetPacket", fn := fun _ => fun
  | [d1, d2] => { results := [.lit (.bool false)], args := [d1, d2] }
  | _ => none }
def FnExactResetPacketWrongFalsely : Prop := fnExactResetPacketRow.holds Try.pinned (OpenSpec.ofChange fnExactResetPacketWrong)

/-- 'laws.FnExactPutFixed': WHATEVER THE INPUT: true; the input reads as it did. -/
def fnExactPutFixedSpec : ChangeSpec := { name := "fnExactPutFixed", fn := fun _ => fun
  | [d1, d2] => { results := [.lit (.bool true)], args := [d1, d2] }
  | _ => none }
def fnExactPutFixedRow : OpenClaim := { program := "ytkfoneckbnggoaa", sum := "ea9b874ce7962bdf51cd85d3af4ee233dfc00f4a1c689a971b41e5d77a996876", func := "loop.example/g00012/laws.FnExactPutFixed", spec := "fnExactPutFixed", recurses := true, apart := false }
def FnExactPutFixedSaid : Prop := fnExactPutFixedRow.holds Try.pinned (OpenSpec.ofChange fnExactPutFixedSpec)

/-- ITS FALSE NEIGHBOUR: 'it returns false'. Refute it at one input. -/
def fnExactPutFixedWrong : ChangeSpec := { name := "fnExactPutFixed", fn := fun _ => fun
  | [d1, d2] => { results := [.lit (.bool false)], args := [d1, d2] }
  | _ => none }
def FnExactPutFixedWrongFalsely : Prop := fnExactPutFixedRow.holds Try.pinned (OpenSpec.ofChange fnExactPutFixedWrong)

/-- 'laws.FnExactGetFixed': WHATEVER THE INPUT: true; the input reads as it did. -/
def fnExactGetFixedSpec : ChangeSpec := { name := "fnExactGetFixed", fn := fun _ => fun
  | [d1, d2, d3] => { results := [.lit (.bool true)], args := [d1, d2, d3] }
  | _ => none }
def fnExactGetFixedRow : OpenClaim := { program := "ytkfoneckbnggoaa", sum := "ea9b874ce7962bdf51cd85d3af4ee233dfc00f4a1c689a971b41e5d77a996876", func := "loop.example/g00012/laws.FnExactGetFixed", spec := "fnExactGetFixed", apart := false }
def FnExactGetFixedSaid : Prop := fnExactGetFixedRow.holds Try.pinned (OpenSpec.ofChange fnExactGetFixedSpec)

/-- ITS FALSE NEIGHBOUR: 'it returns false'. Refute it at one input. -/
def fnExactGetFixedWrong : ChangeSpec := { name := "fnExactGetFixed", fn := fun _ => fun
  | [d1, d2, d3] => { results := [.lit (.bool false)], args := [d1, d2, d3] }
  | _ => none }
def FnExactGetFixedWrongFalsely : Prop := fnExactGetFixedRow.holds Try.pinned (OpenSpec.ofChange fnExactGetFixedWrong)

/-- 'laws.FnExactGetVar': WHATEVER THE INPUT: true; the input reads as it did. -/
def fnExactGetVarSpec : ChangeSpec := { name := "fnExactGetVar", fn := fun _ => fun
  | [d1, d2] => { results := [.lit (.bool true)], args := [d1, d2] }
  | _ => none }
def fnExactGetVarRow : OpenClaim := { program := "ytkfoneckbnggoaa", sum := "ea9b874ce7962bdf51cd85d3af4ee233dfc00f4a1c689a971b41e5d77a996876", func := "loop.example/g00012/laws.FnExactGetVar", spec := "fnExactGetVar", apart := false }
def FnExactGetVarSaid : Prop := fnExactGetVarRow.holds Try.pinned (OpenSpec.ofChange fnExactGetVarSpec)

/-- ITS FALSE NEIGHBOUR: 'it returns false'. Refute it at one input. -/
def fnExactGetVarWrong : ChangeSpec := { name := "fnExactGetVar", fn := fun _ => fun
  | [d1, d2] => { results := [.lit (.bool false)], args := [d1, d2] }
  | _ => none }
def FnExactGetVarWrongFalsely : Prop := fnExactGetVarRow.holds Try.pinned (OpenSpec.ofChange fnExactGetVarWrong)

/-- 'laws.FnExactRangesOK': WHATEVER THE INPUT: true; the input reads as it did. -/
def fnExactRangesOKSpec : ChangeSpec := { name := "fnExactRangesOK", fn := fun _ => fun
  | [d] => { results := [.lit (.bool true)], args := [d] }
  | _ => none }
def fnExactRangesOKRow : OpenClaim := { program := "ytkfoneckbnggoaa", sum := "ea9b874ce7962bdf51cd85d3af4ee233dfc00f4a1c689a971b41e5d77a996876", func := "loop.example/g00012/laws.FnExactRangesOK", spec := "fnExactRangesOK", apart := false }
def FnExactRangesOKSaid : Prop := fnExactRangesOKRow.holds Try.pinned (OpenSpec.ofChange fnExactRangesOKSpec)

/-- ITS FALSE NEIGHBOUR: 'it returns false'. Refute it at one input. -/
def fnExactRangesOKWrong : ChangeSpec := { name := "fnExactRangesOK", fn := fun _ => fun
  | [d] => { results := [.lit (.bool false)], args := [d] }
  | _ => none }
def FnExactRangesOKWrongFalsely : Prop := fnExactRangesOKRow.holds Try.pinned (OpenSpec.ofChange fnExactRangesOKWrong)

/-- 'laws.FnExactIsReset': WHATEVER THE INPUT: true; the input reads as it did. -/
def fnExactIsResetSpec : ChangeSpec := { name := "fnExactIsReset", fn := fun _ => fun
  | [d1, d2] => { results := [.lit (.bool true)], args := [d1, d2] }
  | _ => none }
def fnExactIsResetRow : OpenClaim := { program := "ytkfoneckbnggoaa", sum := "ea9b874ce7962bdf51cd85d3af4ee233dfc00f4a1c689a971b41e5d77a996876", func := "loop.example/g00012/laws.FnExactIsReset", spec := "fnExactIsReset", apart := false }
def FnExactIsResetSaid : Prop := fnExactIsResetRow.holds Try.pinned (OpenSpec.ofChange fnExactIsResetSpec)

/-- ITS FALSE NEIGHBOUR: 'it returns false'. Refute it at one input. -/
def fnExactIsResetWrong : ChangeSpec := { name := "fnExactIsReset", fn := fun _ => fun
  | [d1, d2] => { results := [.lit (.bool false)], args := [d1, d2] }
  | _ => none }
def FnExactIsResetWrongFalsely : Prop := fnExactIsResetRow.holds Try.pinned (OpenSpec.ofChange fnExactIsResetWrong)

/-- 'laws.FnExactRangesCount': WHATEVER THE INPUT: true; the input reads as it did. -/
def fnExactRangesCountSpec : ChangeSpec := { name := "fnExactRangesCount", fn := fun _ => fun
  | [d] => { results := [.lit (.bool true)], args := [d] }
  | _ => none }
def fnExactRangesCountRow : OpenClaim := { program := "ytkfoneckbnggoaa", sum := "ea9b874ce7962bdf51cd85d3af4ee233dfc00f4a1c689a971b41e5d77a996876", func := "loop.example/g00012/laws.FnExactRangesCount", spec := "fnExactRangesCount", apart := false }
def FnExactRangesCountSaid : Prop := fnExactRangesCountRow.holds Try.pinned (OpenSpec.ofChange fnExactRangesCountSpec)

/-- ITS FALSE NEIGHBOUR: 'it returns false'. Refute it at one input. -/
def fnExactRangesCountWrong : ChangeSpec := { name := "fnExactRangesCount", fn := fun _ => fun
  | [d] => { results := [.lit (.bool false)], args := [d] }
  | _ => none }
def FnExactRangesCountWrongFalsely : Prop := fnExactRangesCountRow.holds Try.pinned (OpenSpec.ofChange fnExactRangesCountWrong)

/-- 'laws.FnExactRangesHas': WHATEVER THE INPUT: true; the input reads as it did. -/
def fnExactRangesHasSpec : ChangeSpec := { name := "fnExactRangesHas", fn := fun _ => fun
  | [d1, d2] => { results := [.lit (.bool true)], args := [d1, d2] }
  | _ => none }
def fnExactRangesHasRow : OpenClaim := { program := "ytkfoneckbnggoaa", sum := "ea9b874ce7962bdf51cd85d3af4ee233dfc00f4a1c689a971b41e5d77a996876", func := "loop.example/g00012/laws.FnExactRangesHas", spec := "fnExactRangesHas", apart := false }
def FnExactRangesHasSaid : Prop := fnExactRangesHasRow.holds Try.pinned (OpenSpec.ofChange fnExactRangesHasSpec)

/-- ITS FALSE NEIGHBOUR: 'it returns false'. Refute it at one input. -/
def fnExactRangesHasWrong : ChangeSpec := { name := "fnExactRangesHas", fn := fun _ => fun
  | [d1, d2] => { results := [.lit (.bool false)], args := [d1, d2] }
  | _ => none }
def FnExactRangesHasWrongFalsely : Prop := fnExactRangesHasRow.holds Try.pinned (OpenSpec.ofChange fnExactRangesHasWrong)

/-- 'laws.FnExactRangesFrom': WHATEVER THE INPUT: true; the input reads as it did. -/
def fnExactRangesFromSpec : ChangeSpec := { name := "fnExactRangesFrom", fn := fun _ => fun
  | [d1, d2] => { results := [.lit (.bool true)], args := [d1, d2] }
  | _ => none }
def fnExactRangesFromRow : OpenClaim := { program := "ytkfoneckbnggoaa", sum := "ea9b874ce7962bdf51cd85d3af4ee233dfc00f4a1c689a971b41e5d77a996876", func := "loop.example/g00012/laws.FnExactRangesFrom", spec := "fnExactRangesFrom", apart := false }
def FnExactRangesFromSaid : Prop := fnExactRangesFromRow.holds Try.pinned (OpenSpec.ofChange fnExactRangesFromSpec)

/-- ITS FALSE NEIGHBOUR: 'it returns false'. Refute it at one input. -/
def fnExactRangesFromWrong : ChangeSpec := { name := "fnExactRangesFrom", fn := fun _ => fun
  | [d1, d2] => { results := [.lit (.bool false)], args := [d1, d2] }
  | _ => none }
def FnExactRangesFromWrongFalsely : Prop := fnExactRangesFromRow.holds Try.pinned (OpenSpec.ofChange fnExactRangesFromWrong)

/-- 'laws.FnExactRangesAdd': WHATEVER THE INPUT: true; the input reads as it did. -/
def fnExactRangesAddSpec : ChangeSpec := { name := "fnExactRangesAdd", fn := fun _ => fun
  | [d1, d2] => { results := [.lit (.bool true)], args := [d1, d2] }
  | _ => none }
def fnExactRangesAddRow : OpenClaim := { program := "ytkfoneckbnggoaa", sum := "ea9b874ce7962bdf51cd85d3af4ee233dfc00f4a1c689a971b41e5d77a996876", func := "loop.example/g00012/laws.FnExactRangesAdd", spec := "fnExactRangesAdd", apart := false }
def FnExactRangesAddSaid : Prop := fnExactRangesAddRow.holds Try.pinned (OpenSpec.ofChange fnExactRangesAddSpec)

/-- ITS FALSE NEIGHBOUR: 'it returns false'. Refute it at one input. -/
def fnExactRangesAddWrong : ChangeSpec := { name := "fnExactRangesAdd", fn := fun _ => fun
  | [d1, d2] => { results := [.lit (.bool false)], args := [d1, d2] }
  | _ => none }
def FnExactRangesAddWrongFalsely : Prop := fnExactRangesAddRow.holds Try.pinned (OpenSpec.ofChange fnExactRangesAddWrong)

/-- 'laws.FnExactAckFrame': WHATEVER THE INPUT: true; the input reads as it did. -/
def fnExactAckFrameSpec : ChangeSpec := { name := "fnExactAckFrame", fn := fun _ => fun
  | [d1, d2] => { results := [.lit (.bool true)], args := [d1, d2] }
  | _ => none }
def fnExactAckFrameRow : OpenClaim := { program := "ytkfoneckbnggoaa", sum := "ea9b874ce7962bdf51cd85d3af4ee233dfc00f4a1c689a971b41e5d77a996876", func := "loop.example/g00012/laws.FnExactAckFrame", spec := "fnExactAckFrame", apart := false }
def FnExactAckFrameSaid : Prop := fnExactAckFrameRow.holds Try.pinned (OpenSpec.ofChange fnExactAckFrameSpec)

/-- ITS FALSE NEIGHBOUR: 'it returns false'. Refute it at one input. -/
def fnExactAckFrameWrong : ChangeSpec := { name := "fnExactAckFrame", fn := fun _ => fun
  | [d1, d2] => { results := [.lit (.bool false)], args := [d1, d2] }
  | _ => none }
def FnExactAckFrameWrongFalsely : Prop := fnExactAckFrameRow.holds Try.pinned (OpenSpec.ofChange fnExactAckFrameWrong)

/-- 'laws.FnRtt': WHATEVER THE INPUT: true; the input reads as it did. -/
def fnRttSpec : ChangeSpec := { name := "fnRtt", fn := fun _ => fun
  | [d] => { results := [.lit (.bool true)], args := [d] }
  | _ => none }
def fnRttRow : OpenClaim := { program := "ytkfoneckbnggoaa", sum := "ea9b874ce7962bdf51cd85d3af4ee233dfc00f4a1c689a971b41e5d77a996876", func := "loop.example/g00012/laws.FnRtt", spec := "fnRtt", apart := false }
def FnRttSaid : Prop := fnRttRow.holds Try.pinned (OpenSpec.ofChange fnRttSpec)

/-- ITS FALSE NEIGHBOUR: 'it returns false'. Refute it at one input. -/
def fnRttWrong : ChangeSpec := { name := "fnRtt", fn := fun _ => fun
  | [d] => { results := [.lit (.bool false)], args := [d] }
  | _ => none }
def FnRttWrongFalsely : Prop := fnRttRow.holds Try.pinned (OpenSpec.ofChange fnRttWrong)

/- THE SECOND FORM. 'bulk': how many values and letters a reading holds, each counted each time it is reached (what is shared counts as often as it is met; a slice's spare places count too). A statement '..UptoSaid' is the law's where the arguments, and the package variables that the reading takes, are together of bulk at most 1048576: NARROWER than '..Said'. Prove '..Said' where nothing that the law and all that it calls make is longer than what came in: it says more and counts as full. Else prove '..UptoSaid'. A law counts once. -/
mutual
def uptoBulk {H : Type} : DataW H → Nat
  | .lit (.string bytes) => bytes.length + 1
  | .lit _ => 1
  | .nil => 1
  | .ptr d => uptoBulk d + 1
  | .slice elems spare => uptoBulkAll elems + uptoBulkAll spare + 1
  | .agg parts => uptoBulkAll parts + 1
  | .iface _ d => uptoBulk d + 1
  | .map entries => uptoBulkEntries entries + 1
  | .held _ => 1
def uptoBulkAll {H : Type} : List (DataW H) → Nat
  | [] => 0
  | d :: r => uptoBulk d + uptoBulkAll r
def uptoBulkEntries {H : Type} : List (Lit × DataW H) → Nat
  | [] => 0
  | x :: r => uptoBulkEntry x + uptoBulkEntries r
def uptoBulkEntry {H : Type} : Lit × DataW H → Nat
  | (.string bytes, d) => bytes.length + uptoBulk d + 1
  | (_, d) => uptoBulk d + 1
 end
def uptoSmall : (H : Type) → List (DataW H) → Bool := fun _ ds => decide (uptoBulkAll ds ≤ 1048576)
def OpenSpec.upto (s : _root_.Go.ChangeSpec) : _root_.Go.OpenSpec := { _root_.Go.OpenSpec.ofChange s with cond := some uptoSmall }

/-- 'laws.FnExactResetPacket', WHERE WHAT IT READS IS OF BULK AT MOST 1048576: true; the input reads as it did. -/
def fnExactResetPacketUptoRow : OpenClaim := { program := "ytkfoneckbnggoaa", sum := "ea9b874ce7962bdf51cd85d3af4ee233dfc00f4a1c689a971b41e5d77a996876", func := "loop.example/g00012/laws.FnExactResetPacket", spec := "fnExactResetPacket", apart := false, narrowed := true }
def FnExactResetPacketUptoSaid : Prop := fnExactResetPacketUptoRow.holds Try.pinned (OpenSpec.upto fnExactResetPacketSpec)

/-- 'laws.FnExactPutFixed', WHERE WHAT IT READS IS OF BULK AT MOST 1048576: true; the input reads as it did. -/
def fnExactPutFixedUptoRow : OpenClaim := { program := "ytkfoneckbnggoaa", sum := "ea9b874ce7962bdf51cd85d3af4ee233dfc00f4a1c689a971b41e5d77a996876", func := "loop.example/g00012/laws.FnExactPutFixed", spec := "fnExactPutFixed", recurses := true, apart := false, narrowed := true }
def FnExactPutFixedUptoSaid : Prop := fnExactPutFixedUptoRow.holds Try.pinned (OpenSpec.upto fnExactPutFixedSpec)

/-- 'laws.FnExactGetFixed', WHERE WHAT IT READS IS OF BULK AT MOST 1048576: true; the input reads as it did. -/
def fnExactGetFixedUptoRow : OpenClaim := { program := "ytkfoneckbnggoaa", sum := "ea9b874ce7962bdf51cd85d3af4ee233dfc00f4a1c689a971b41e5d77a996876", func := "loop.example/g00012/laws.FnExactGetFixed", spec := "fnExactGetFixed", apart := false, narrowed := true }
def FnExactGetFixedUptoSaid : Prop := fnExactGetFixedUptoRow.holds Try.pinned (OpenSpec.upto fnExactGetFixedSpec)

/-- 'laws.FnExactGetVar', WHERE WHAT IT READS IS OF BULK AT MOST 1048576: true; the input reads as it did. -/
def fnExactGetVarUptoRow : OpenClaim := { program := "ytkfoneckbnggoaa", sum := "ea9b874ce7962bdf51cd85d3af4ee233dfc00f4a1c689a971b41e5d77a996876", func := "loop.example/g00012/laws.FnExactGetVar", spec := "fnExactGetVar", apart := false, narrowed := true }
def FnExactGetVarUptoSaid : Prop := fnExactGetVarUptoRow.holds Try.pinned (OpenSpec.upto fnExactGetVarSpec)

/-- 'laws.FnExactRangesOK', WHERE WHAT IT READS IS OF BULK AT MOST 1048576: true; the input reads as it did. -/
def fnExactRangesOKUptoRow : OpenClaim := { program := "ytkfoneckbnggoaa", sum := "ea9b874ce7962bdf51cd85d3af4ee233dfc00f4a1c689a971b41e5d77a996876", func := "loop.example/g00012/laws.FnExactRangesOK", spec := "fnExactRangesOK", apart := false, narrowed := true }
def FnExactRangesOKUptoSaid : Prop := fnExactRangesOKUptoRow.holds Try.pinned (OpenSpec.upto fnExactRangesOKSpec)

/-- 'laws.FnExactIsReset', WHERE WHAT IT READS IS OF BULK AT MOST 1048576: true; the input reads as it did. -/
def fnExactIsResetUptoRow : OpenClaim := { program := "ytkfoneckbnggoaa", sum := "ea9b874ce7962bdf51cd85d3af4ee233dfc00f4a1c689a971b41e5d77a996876", func := "loop.example/g00012/laws.FnExactIsReset", spec := "fnExactIsReset", apart := false, narrowed := true }
def FnExactIsResetUptoSaid : Prop := fnExactIsResetUptoRow.holds Try.pinned (OpenSpec.upto fnExactIsResetSpec)

/-- 'laws.FnExactRangesCount', WHERE WHAT IT READS IS OF BULK AT MOST 1048576: true; the input reads as it did. -/
def fnExactRangesCountUptoRow : OpenClaim := { program := "ytkfoneckbnggoaa", sum := "ea9b874ce7962bdf51cd85d3af4ee233dfc00f4a1c689a971b41e5d77a996876", func := "loop.example/g00012/laws.FnExactRangesCount", spec := "fnExactRangesCount", apart := false, narrowed := true }
def FnExactRangesCountUptoSaid : Prop := fnExactRangesCountUptoRow.holds Try.pinned (OpenSpec.upto fnExactRangesCountSpec)

/-- 'laws.FnExactRangesHas', WHERE WHAT IT READS IS OF BULK AT MOST 1048576: true; the input reads as it did. -/
def fnExactRangesHasUptoRow : OpenClaim := { program := "ytkfoneckbnggoaa", sum := "ea9b874ce7962bdf51cd85d3af4ee233dfc00f4a1c689a971b41e5d77a996876", func := "loop.example/g00012/laws.FnExactRangesHas", spec := "fnExactRangesHas", apart := false, narrowed := true }
def FnExactRangesHasUptoSaid : Prop := fnExactRangesHasUptoRow.holds Try.pinned (OpenSpec.upto fnExactRangesHasSpec)

/-- 'laws.FnExactRangesFrom', WHERE WHAT IT READS IS OF BULK AT MOST 1048576: true; the input reads as it did. -/
def fnExactRangesFromUptoRow : OpenClaim := { program := "ytkfoneckbnggoaa", sum := "ea9b874ce7962bdf51cd85d3af4ee233dfc00f4a1c689a971b41e5d77a996876", func := "loop.example/g00012/laws.FnExactRangesFrom", spec := "fnExactRangesFrom", apart := false, narrowed := true }
def FnExactRangesFromUptoSaid : Prop := fnExactRangesFromUptoRow.holds Try.pinned (OpenSpec.upto fnExactRangesFromSpec)

/-- 'laws.FnExactRangesAdd', WHERE WHAT IT READS IS OF BULK AT MOST 1048576: true; the input reads as it did. -/
def fnExactRangesAddUptoRow : OpenClaim := { program := "ytkfoneckbnggoaa", sum := "ea9b874ce7962bdf51cd85d3af4ee233dfc00f4a1c689a971b41e5d77a996876", func := "loop.example/g00012/laws.FnExactRangesAdd", spec := "fnExactRangesAdd", apart := false, narrowed := true }
def FnExactRangesAddUptoSaid : Prop := fnExactRangesAddUptoRow.holds Try.pinned (OpenSpec.upto fnExactRangesAddSpec)

/-- 'laws.FnExactAckFrame', WHERE WHAT IT READS IS OF BULK AT MOST 1048576: true; the input reads as it did. -/
def fnExactAckFrameUptoRow : OpenClaim := { program := "ytkfoneckbnggoaa", sum := "ea9b874ce7962bdf51cd85d3af4ee233dfc00f4a1c689a971b41e5d77a996876", func := "loop.example/g00012/laws.FnExactAckFrame", spec := "fnExactAckFrame", apart := false, narrowed := true }
def FnExactAckFrameUptoSaid : Prop := fnExactAckFrameUptoRow.holds Try.pinned (OpenSpec.upto fnExactAckFrameSpec)

/-- 'laws.FnRtt', WHERE WHAT IT READS IS OF BULK AT MOST 1048576: true; the input reads as it did. -/
def fnRttUptoRow : OpenClaim := { program := "ytkfoneckbnggoaa", sum := "ea9b874ce7962bdf51cd85d3af4ee233dfc00f4a1c689a971b41e5d77a996876", func := "loop.example/g00012/laws.FnRtt", spec := "fnRtt", apart := false, narrowed := true }
def FnRttUptoSaid : Prop := fnRttUptoRow.holds Try.pinned (OpenSpec.upto fnRttSpec)

end Rows
end Go.Proofs.Ytkfoneckbnggoaa
