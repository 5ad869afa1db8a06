/-
  No cell of these rows narrows 'for every input' (looked for: loops, veiled, ifaces, maps, wideKeys, modest, calm, conditions, laid).
  DERIVED. THE GIVEN ROWS OF THIS SEAT. 11 by the template 'for every input the law returns true; each argument reads behind the call as it read before'; 0 by the template 'total and deterministic' (their statements: YtcdkbdkanjifeaaTotals.lean).
  GIVEN WITH THE SEED: the statements are not yours to turn. If you find one false, say at which input.
  Laid BY PROGRAM, IN A SANDBOX (cutbox-rows.mjs): the forced cells as the released guide's own fill.sh prints them over the translation 435c93ed158356af… (all of the seat's roots in one cut). By AI agents, Wed Nov 11 2026. No macro, syntax, notation, axiom, sorry.
-/
import Derived.Test.YtcdkbdkanjifeaaChecked
import GoSem.Claim
import GoSem.ClaimJoined
import GoSem.ClaimMapViews
import Derived.JoinedTies
import Derived.KernelRfl
namespace Go.Proofs.Ytcdkbdkanjifeaa
/- THE CELL 'sum', in the pinned program and in every row, IS THE sha256 OF THE DUMP (.gsa) THAT YtcdkbdkanjifeaaProg.lean LOADS. Nothing in Lean hashes anything: it is a label: what it is worth is what the hold of that sum in a sandbox is worth. -/
noncomputable def Try.pinned : Pinned := { name := "ytcdkbdkanjifeaa", sum := "435c93ed158356af329daf1a5ae34f47ee04de547af05da0f4efd6df41e26eb6", checked := Try.checked }
namespace Rows
def none {H : Type} : Left H := { results := [], args := [] }

/-- 'laws.FnExactDigest': WHATEVER THE INPUT: true; the input reads as it did. -/
def fnExactDigestSpec : ChangeSpec := { name := "fnExactDigest", fn := fun _ => fun
  | [d1, d2] => { results := [.lit (.bool true)], args := [d1, d2] }
  | _ => none }
def fnExactDigestRow : OpenClaim := { program := "ytcdkbdkanjifeaa", sum := "435c93ed158356af329daf1a5ae34f47ee04de547af05da0f4efd6df41e26eb6", func := "loop.example/g00012/laws.FnExactDigest", spec := "fnExactDigest", recurses := true, apart := false }
def FnExactDigestSaid : Prop := fnExactDigestRow.holds Try.pinned (OpenSpec.ofChange fnExactDigestSpec)

/-- ITS FALSE NEIGHBOUR: 'it returns false'. Refute it at one input. -/
def fnExactDigestWrong : ChangeSpec := { name := "fnExactDigest", fn := fun _ => fun
  | [d1, d2] => { results := [.lit (.bool false)], args := [d1, d2] }
  | _ => none }
def FnExactDigestWrongFalsely : Prop := fnExactDigestRow.holds Try.pinned (OpenSpec.ofChange fnExactDigestWrong)

/-- 'laws.FnExactResetToken': WHATEVER THE INPUT: true; the input reads as it did. -/
def fnExactResetTokenSpec : ChangeSpec := { name := "fnExactResetToken", fn := fun _ => fun
  | [d1, d2] => { results := [.lit (.bool true)], args := [d1, d2] }
  | _ => none }
def fnExactResetTokenRow : OpenClaim := { program := "ytcdkbdkanjifeaa", sum := "435c93ed158356af329daf1a5ae34f47ee04de547af05da0f4efd6df41e26eb6", func := "loop.example/g00012/laws.FnExactResetToken", spec := "fnExactResetToken", recurses := true, apart := false }
def FnExactResetTokenSaid : Prop := fnExactResetTokenRow.holds Try.pinned (OpenSpec.ofChange fnExactResetTokenSpec)

/-- ITS FALSE NEIGHBOUR: 'it returns false'. Refute it at one input. -/
def fnExactResetTokenWrong : ChangeSpec := { name := "fnExactResetToken", fn := fun _ => fun
  | [d1, d2] => { results := [.lit (.bool false)], args := [d1, d2] }
  | _ => none }
def FnExactResetTokenWrongFalsely : Prop := fnExactResetTokenRow.holds Try.pinned (OpenSpec.ofChange fnExactResetTokenWrong)

/-- 'laws.FnExactDerive': WHATEVER THE INPUT: true; the input reads as it did. -/
def fnExactDeriveSpec : ChangeSpec := { name := "fnExactDerive", fn := fun _ => fun
  | [d1, d2, d3] => { results := [.lit (.bool true)], args := [d1, d2, d3] }
  | _ => none }
def fnExactDeriveRow : OpenClaim := { program := "ytcdkbdkanjifeaa", sum := "435c93ed158356af329daf1a5ae34f47ee04de547af05da0f4efd6df41e26eb6", func := "loop.example/g00012/laws.FnExactDerive", spec := "fnExactDerive", recurses := true, apart := false }
def FnExactDeriveSaid : Prop := fnExactDeriveRow.holds Try.pinned (OpenSpec.ofChange fnExactDeriveSpec)

/-- ITS FALSE NEIGHBOUR: 'it returns false'. Refute it at one input. -/
def fnExactDeriveWrong : ChangeSpec := { name := "fnExactDerive", fn := fun _ => fun
  | [d1, d2, d3] => { results := [.lit (.bool false)], args := [d1, d2, d3] }
  | _ => none }
def FnExactDeriveWrongFalsely : Prop := fnExactDeriveRow.holds Try.pinned (OpenSpec.ofChange fnExactDeriveWrong)

/-- 'laws.FnExactHeadMask': WHATEVER THE INPUT: true; the input reads as it did. -/
def fnExactHeadMaskSpec : ChangeSpec := { name := "fnExactHeadMask", fn := fun _ => fun
  | [d1, d2] => { results := [.lit (.bool true)], args := [d1, d2] }
  | _ => none }
def fnExactHeadMaskRow : OpenClaim := { program := "ytcdkbdkanjifeaa", sum := "435c93ed158356af329daf1a5ae34f47ee04de547af05da0f4efd6df41e26eb6", func := "loop.example/g00012/laws.FnExactHeadMask", spec := "fnExactHeadMask", recurses := true, apart := false }
def FnExactHeadMaskSaid : Prop := fnExactHeadMaskRow.holds Try.pinned (OpenSpec.ofChange fnExactHeadMaskSpec)

/-- ITS FALSE NEIGHBOUR: 'it returns false'. Refute it at one input. -/
def fnExactHeadMaskWrong : ChangeSpec := { name := "fnExactHeadMask", fn := fun _ => fun
  | [d1, d2] => { results := [.lit (.bool false)], args := [d1, d2] }
  | _ => none }
def FnExactHeadMaskWrongFalsely : Prop := fnExactHeadMaskRow.holds Try.pinned (OpenSpec.ofChange fnExactHeadMaskWrong)

/-- 'laws.FnExactKeysOf': WHATEVER THE INPUT: true; the input reads as it did. -/
def fnExactKeysOfSpec : ChangeSpec := { name := "fnExactKeysOf", fn := fun _ => fun
  | [d] => { results := [.lit (.bool true)], args := [d] }
  | _ => none }
def fnExactKeysOfRow : OpenClaim := { program := "ytcdkbdkanjifeaa", sum := "435c93ed158356af329daf1a5ae34f47ee04de547af05da0f4efd6df41e26eb6", func := "loop.example/g00012/laws.FnExactKeysOf", spec := "fnExactKeysOf", recurses := true, apart := false }
def FnExactKeysOfSaid : Prop := fnExactKeysOfRow.holds Try.pinned (OpenSpec.ofChange fnExactKeysOfSpec)

/-- ITS FALSE NEIGHBOUR: 'it returns false'. Refute it at one input. -/
def fnExactKeysOfWrong : ChangeSpec := { name := "fnExactKeysOf", fn := fun _ => fun
  | [d] => { results := [.lit (.bool false)], args := [d] }
  | _ => none }
def FnExactKeysOfWrongFalsely : Prop := fnExactKeysOfRow.holds Try.pinned (OpenSpec.ofChange fnExactKeysOfWrong)

/-- 'laws.FnExactRetryPacket': WHATEVER THE INPUT: true; the input reads as it did. -/
def fnExactRetryPacketSpec : ChangeSpec := { name := "fnExactRetryPacket", fn := fun _ => fun
  | [d1, d2] => { results := [.lit (.bool true)], args := [d1, d2] }
  | _ => none }
def fnExactRetryPacketRow : OpenClaim := { program := "ytcdkbdkanjifeaa", sum := "435c93ed158356af329daf1a5ae34f47ee04de547af05da0f4efd6df41e26eb6", func := "loop.example/g00012/laws.FnExactRetryPacket", spec := "fnExactRetryPacket", recurses := true, apart := false }
def FnExactRetryPacketSaid : Prop := fnExactRetryPacketRow.holds Try.pinned (OpenSpec.ofChange fnExactRetryPacketSpec)

/-- ITS FALSE NEIGHBOUR: 'it returns false'. Refute it at one input. -/
def fnExactRetryPacketWrong : ChangeSpec := { name := "fnExactRetryPacket", fn := fun _ => fun
  | [d1, d2] => { results := [.lit (.bool false)], args := [d1, d2] }
  | _ => none }
def FnExactRetryPacketWrongFalsely : Prop := fnExactRetryPacketRow.holds Try.pinned (OpenSpec.ofChange fnExactRetryPacketWrong)

/-- 'laws.FnExactSeal': WHATEVER THE INPUT: true; the input reads as it did. -/
def fnExactSealSpec : ChangeSpec := { name := "fnExactSeal", fn := fun _ => fun
  | [d1, d2, d3, d4] => { results := [.lit (.bool true)], args := [d1, d2, d3, d4] }
  | _ => none }
def fnExactSealRow : OpenClaim := { program := "ytcdkbdkanjifeaa", sum := "435c93ed158356af329daf1a5ae34f47ee04de547af05da0f4efd6df41e26eb6", func := "loop.example/g00012/laws.FnExactSeal", spec := "fnExactSeal", recurses := true, apart := false }
def FnExactSealSaid : Prop := fnExactSealRow.holds Try.pinned (OpenSpec.ofChange fnExactSealSpec)

/-- ITS FALSE NEIGHBOUR: 'it returns false'. Refute it at one input. -/
def fnExactSealWrong : ChangeSpec := { name := "fnExactSeal", fn := fun _ => fun
  | [d1, d2, d3, d4] => { results := [.lit (.bool false)], args := [d1, d2, d3, d4] }
  | _ => none }
def FnExactSealWrongFalsely : Prop := fnExactSealRow.holds Try.pinned (OpenSpec.ofChange fnExactSealWrong)

/-- 'laws.FnExactNextKeys': WHATEVER THE INPUT: true; the input reads as it did. -/
def fnExactNextKeysSpec : ChangeSpec := { name := "fnExactNextKeys", fn := fun _ => fun
  | [d] => { results := [.lit (.bool true)], args := [d] }
  | _ => none }
def fnExactNextKeysRow : OpenClaim := { program := "ytcdkbdkanjifeaa", sum := "435c93ed158356af329daf1a5ae34f47ee04de547af05da0f4efd6df41e26eb6", func := "loop.example/g00012/laws.FnExactNextKeys", spec := "fnExactNextKeys", recurses := true, apart := false }
def FnExactNextKeysSaid : Prop := fnExactNextKeysRow.holds Try.pinned (OpenSpec.ofChange fnExactNextKeysSpec)

/-- ITS FALSE NEIGHBOUR: 'it returns false'. Refute it at one input. -/
def fnExactNextKeysWrong : ChangeSpec := { name := "fnExactNextKeys", fn := fun _ => fun
  | [d] => { results := [.lit (.bool false)], args := [d] }
  | _ => none }
def FnExactNextKeysWrongFalsely : Prop := fnExactNextKeysRow.holds Try.pinned (OpenSpec.ofChange fnExactNextKeysWrong)

/-- 'laws.FnExactOpenSealed': WHATEVER THE INPUT: true; the input reads as it did. -/
def fnExactOpenSealedSpec : ChangeSpec := { name := "fnExactOpenSealed", fn := fun _ => fun
  | [d1, d2, d3, d4] => { results := [.lit (.bool true)], args := [d1, d2, d3, d4] }
  | _ => none }
def fnExactOpenSealedRow : OpenClaim := { program := "ytcdkbdkanjifeaa", sum := "435c93ed158356af329daf1a5ae34f47ee04de547af05da0f4efd6df41e26eb6", func := "loop.example/g00012/laws.FnExactOpenSealed", spec := "fnExactOpenSealed", recurses := true, apart := false }
def FnExactOpenSealedSaid : Prop := fnExactOpenSealedRow.holds Try.pinned (OpenSpec.ofChange fnExactOpenSealedSpec)

/-- ITS FALSE NEIGHBOUR: 'it returns false'. Refute it at one input. -/
def fnExactOpenSealedWrong : ChangeSpec := { name := "fnExactOpenSealed", fn := fun _ => fun
  | [d1, d2, d3, d4] => { results := [.lit (.bool false)], args := [d1, d2, d3, d4] }
  | _ => none }
def FnExactOpenSealedWrongFalsely : Prop := fnExactOpenSealedRow.holds Try.pinned (OpenSpec.ofChange fnExactOpenSealedWrong)

/-- 'laws.FnExactHeadBytes': WHATEVER THE INPUT: true; the input reads as it did. -/
def fnExactHeadBytesSpec : ChangeSpec := { name := "fnExactHeadBytes", fn := fun _ => fun
  | [d1, d2] => { results := [.lit (.bool true)], args := [d1, d2] }
  | _ => none }
def fnExactHeadBytesRow : OpenClaim := { program := "ytcdkbdkanjifeaa", sum := "435c93ed158356af329daf1a5ae34f47ee04de547af05da0f4efd6df41e26eb6", func := "loop.example/g00012/laws.FnExactHeadBytes", spec := "fnExactHeadBytes", recurses := true, apart := false }
def FnExactHeadBytesSaid : Prop := fnExactHeadBytesRow.holds Try.pinned (OpenSpec.ofChange fnExactHeadBytesSpec)

/-- ITS FALSE NEIGHBOUR: 'it returns false'. Refute it at one input. -/
def fnExactHeadBytesWrong : ChangeSpec := { name := "fnExactHeadBytes", fn := fun _ => fun
  | [d1, d2] => { results := [.lit (.bool false)], args := [d1, d2] }
  | _ => none }
def FnExactHeadBytesWrongFalsely : Prop := fnExactHeadBytesRow.holds Try.pinned (OpenSpec.ofChange fnExactHeadBytesWrong)

/-- 'laws.FnExactProtectPacket': WHATEVER THE INPUT: true; the input reads as it did. -/
def fnExactProtectPacketSpec : ChangeSpec := { name := "fnExactProtectPacket", fn := fun _ => fun
  | [d1, d2, d3] => { results := [.lit (.bool true)], args := [d1, d2, d3] }
  | _ => none }
def fnExactProtectPacketRow : OpenClaim := { program := "ytcdkbdkanjifeaa", sum := "435c93ed158356af329daf1a5ae34f47ee04de547af05da0f4efd6df41e26eb6", func := "loop.example/g00012/laws.FnExactProtectPacket", spec := "fnExactProtectPacket", recurses := true, apart := false }
def FnExactProtectPacketSaid : Prop := fnExactProtectPacketRow.holds Try.pinned (OpenSpec.ofChange fnExactProtectPacketSpec)

/-- ITS FALSE NEIGHBOUR: 'it returns false'. Refute it at one input. -/
def fnExactProtectPacketWrong : ChangeSpec := { name := "fnExactProtectPacket", fn := fun _ => fun
  | [d1, d2, d3] => { results := [.lit (.bool false)], args := [d1, d2, d3] }
  | _ => none }
def FnExactProtectPacketWrongFalsely : Prop := fnExactProtectPacketRow.holds Try.pinned (OpenSpec.ofChange fnExactProtectPacketWrong)

/- THE SECOND FORM. 'bulk': how many values and letters a reading holds, each counted each time it is reached (what is shared counts as often as it is met; a slice's spare places count too). A statement '..UptoSaid' is the law's where the arguments, and the package variables that the reading takes, are together of bulk at most 1048576: NARROWER than '..Said'. Prove '..Said' where nothing that the law and all that it calls make is longer than what came in: it says more and counts as full. Else prove '..UptoSaid'. A law counts once. -/
mutual
def uptoBulk {H : Type} : DataW H → Nat
  | .lit (.string bytes) => bytes.length + 1
  | .lit _ => 1
  | .nil => 1
  | .ptr d => uptoBulk d + 1
  | .slice elems spare => uptoBulkAll elems + uptoBulkAll spare + 1
  | .agg parts => uptoBulkAll parts + 1
  | .iface _ d => uptoBulk d + 1
  | .map entries => uptoBulkEntries entries + 1
  | .held _ => 1
def uptoBulkAll {H : Type} : List (DataW H) → Nat
  | [] => 0
  | d :: r => uptoBulk d + uptoBulkAll r
def uptoBulkEntries {H : Type} : List (Lit × DataW H) → Nat
  | [] => 0
  | x :: r => uptoBulkEntry x + uptoBulkEntries r
def uptoBulkEntry {H : Type} : Lit × DataW H → Nat
  | (.string bytes, d) => bytes.length + uptoBulk d + 1
  | (_, d) => uptoBulk d + 1
 end
def uptoSmall : (H : Type) → List (DataW H) → Bool := fun _ ds => decide (uptoBulkAll ds ≤ 1048576)
def OpenSpec.upto (s : _root_.Go.ChangeSpec) : _root_.Go.OpenSpec := { _root_.Go.OpenSpec.ofChange s with cond := some uptoSmall }

/-- 'laws.FnExactDigest', WHERE WHAT IT READS IS OF BULK AT MOST 1048576: true; the input reads as it did. -/
def fnExactDigestUptoRow : OpenClaim := { program := "ytcdkbdkanjifeaa", sum := "435c93ed158356af329daf1a5ae34f47ee04de547af05da0f4efd6df41e26eb6", func := "loop.example/g00012/laws.FnExactDigest", spec := "fnExactDigest", recurses := true, apart := false, narrowed := true }
def FnExactDigestUptoSaid : Prop := fnExactDigestUptoRow.holds Try.pinned (OpenSpec.upto fnExactDigestSpec)

/-- 'laws.FnExactResetToken', WHERE WHAT IT READS IS OF BULK AT MOST 1048576: true; the input reads as it did. -/
def fnExactResetTokenUptoRow : OpenClaim := { program := "ytcdkbdkanjifeaa", sum := "435c93ed158356af329daf1a5ae34f47ee04de547af05da0f4efd6df41e26eb6", func := "loop.example/g00012/laws.FnExactResetToken", spec := "fnExactResetToken", recurses := true, apart := false, narrowed := true }
def FnExactResetTokenUptoSaid : Prop := fnExactResetTokenUptoRow.holds Try.pinned (OpenSpec.upto fnExactResetTokenSpec)

/-- 'laws.FnExactDerive', WHERE WHAT IT READS IS OF BULK AT MOST 1048576: true; the input reads as it did. -/
def fnExactDeriveUptoRow : OpenClaim := { program := "ytcdkbdkanjifeaa", sum := "435c93ed158356af329daf1a5ae34f47ee04de547af05da0f4efd6df41e26eb6", func := "loop.example/g00012/laws.FnExactDerive", spec := "fnExactDerive", recurses := true, apart := false, narrowed := true }
def FnExactDeriveUptoSaid : Prop := fnExactDeriveUptoRow.holds Try.pinned (OpenSpec.upto fnExactDeriveSpec)

/-- 'laws.FnExactHeadMask', WHERE WHAT IT READS IS OF BULK AT MOST 1048576: true; the input reads as it did. -/
def fnExactHeadMaskUptoRow : OpenClaim := { program := "ytcdkbdkanjifeaa", sum := "435c93ed158356af329daf1a5ae34f47ee04de547af05da0f4efd6df41e26eb6", func := "loop.example/g00012/laws.FnExactHeadMask", spec := "fnExactHeadMask", recurses := true, apart := false, narrowed := true }
def FnExactHeadMaskUptoSaid : Prop := fnExactHeadMaskUptoRow.holds Try.pinned (OpenSpec.upto fnExactHeadMaskSpec)

/-- 'laws.FnExactKeysOf', WHERE WHAT IT READS IS OF BULK AT MOST 1048576: true; the input reads as it did. -/
def fnExactKeysOfUptoRow : OpenClaim := { program := "ytcdkbdkanjifeaa", sum := "435c93ed158356af329daf1a5ae34f47ee04de547af05da0f4efd6df41e26eb6", func := "loop.example/g00012/laws.FnExactKeysOf", spec := "fnExactKeysOf", recurses := true, apart := false, narrowed := true }
def FnExactKeysOfUptoSaid : Prop := fnExactKeysOfUptoRow.holds Try.pinned (OpenSpec.upto fnExactKeysOfSpec)

/-- 'laws.FnExactRetryPacket', WHERE WHAT IT READS IS OF BULK AT MOST 1048576: true; the input reads as it did. -/
def fnExactRetryPacketUptoRow : OpenClaim := { program := "ytcdkbdkanjifeaa", sum := "435c93ed158356af329daf1a5ae34f47ee04de547af05da0f4efd6df41e26eb6", func := "loop.example/g00012/laws.FnExactRetryPacket", spec := "fnExactRetryPacket", recurses := true, apart := false, narrowed := true }
def FnExactRetryPacketUptoSaid : Prop := fnExactRetryPacketUptoRow.holds Try.pinned (OpenSpec.upto fnExactRetryPacketSpec)

/-- 'laws.FnExactSeal', WHERE WHAT IT READS IS OF BULK AT MOST 1048576: true; the input reads as it did. -/
def fnExactSealUptoRow : OpenClaim := { program := "ytcdkbdkanjifeaa", sum := "435c93ed158356af329daf1a5ae34f47ee04de547af05da0f4efd6df41e26eb6", func := "loop.example/g00012/laws.FnExactSeal", spec := "fnExactSeal", recurses := true, apart := false, narrowed := true }
def FnExactSealUptoSaid : Prop := fnExactSealUptoRow.holds Try.pinned (OpenSpec.upto fnExactSealSpec)

/-- 'laws.FnExactNextKeys', WHERE WHAT IT READS IS OF BULK AT MOST 1048576: true; the input reads as it did. -/
def fnExactNextKeysUptoRow : OpenClaim := { program := "ytcdkbdkanjifeaa", sum := "435c93ed158356af329daf1a5ae34f47ee04de547af05da0f4efd6df41e26eb6", func := "loop.example/g00012/laws.FnExactNextKeys", spec := "fnExactNextKeys", recurses := true, apart := false, narrowed := true }
def FnExactNextKeysUptoSaid : Prop := fnExactNextKeysUptoRow.holds Try.pinned (OpenSpec.upto fnExactNextKeysSpec)

/-- 'laws.FnExactOpenSealed', WHERE WHAT IT READS IS OF BULK AT MOST 1048576: true; the input reads as it did. -/
def fnExactOpenSealedUptoRow : OpenClaim := { program := "ytcdkbdkanjifeaa", sum := "435c93ed158356af329daf1a5ae34f47ee04de547af05da0f4efd6df41e26eb6", func := "loop.example/g00012/laws.FnExactOpenSealed", spec := "fnExactOpenSealed", recurses := true, apart := false, narrowed := true }
def FnExactOpenSealedUptoSaid : Prop := fnExactOpenSealedUptoRow.holds Try.pinned (OpenSpec.upto fnExactOpenSealedSpec)

/-- 'laws.FnExactHeadBytes', WHERE WHAT IT READS IS OF BULK AT MOST 1048576: true; the input reads as it did. -/
def fnExactHeadBytesUptoRow : OpenClaim := { program := "ytcdkbdkanjifeaa", sum := "435c93ed158356af329daf1a5ae34f47ee04de547af05da0f4efd6df41e26eb6", func := "loop.example/g00012/laws.FnExactHeadBytes", spec := "fnExactHeadBytes", recurses := true, apart := false, narrowed := true }
def FnExactHeadBytesUptoSaid : Prop := fnExactHeadBytesUptoRow.holds Try.pinned (OpenSpec.upto fnExactHeadBytesSpec)

/-- 'laws.FnExactProtectPacket', WHERE WHAT IT READS IS OF BULK AT MOST 1048576: true; the input reads as it did. -/
def fnExactProtectPacketUptoRow : OpenClaim := { program := "ytcdkbdkanjifeaa", sum := "435c93ed158356af329daf1a5ae34f47ee04de547af05da0f4efd6df41e26eb6", func := "loop.example/g00012/laws.FnExactProtectPacket", spec := "fnExactProtectPacket", recurses := true, apart := false, narrowed := true }
def FnExactProtectPacketUptoSaid : Prop := fnExactProtectPacketUptoRow.holds Try.pinned (OpenSpec.upto fnExactProtectPacketSpec)

end Rows
end Go.Proofs.Ytcdkbdkanjifeaa
