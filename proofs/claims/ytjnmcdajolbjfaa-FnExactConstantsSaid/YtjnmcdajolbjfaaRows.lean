/-
  No cell of these rows narrows 'for every input' (looked for: loops, veiled, ifaces, maps, wideKeys, modest, calm, conditions, laid).
  DERIVED. THE GIVEN ROWS OF THIS SEAT. 12 by the template 'for every input the law returns true; each argument reads behind the call as it read before'; 0 by the template 'total and deterministic' (their statements: YtjnmcdajolbjfaaTotals.lean).
  GIVEN WITH THE SEED: the statements are not yours to turn. If you find one false, say at which input.
  Laid BY PROGRAM, IN A SANDBOX (cutbox-rows.mjs): the forced cells as the released guide's own fill.sh prints them over the translation 05291af5199e4802… (all of the seat's roots in one cut). By AI agents, Wed Nov 11 2026. No macro, syntax, notation, axiom, sorry.
-/
import Derived.Test.YtjnmcdajolbjfaaChecked
import GoSem.Claim
import GoSem.ClaimJoined
import GoSem.ClaimMapViews
import Derived.JoinedTies
import Derived.KernelRfl
namespace Go.Proofs.Ytjnmcdajolbjfaa
/- THE CELL 'sum', in the pinned program and in every row, IS THE sha256 OF THE DUMP (.gsa) THAT YtjnmcdajolbjfaaProg.lean LOADS. Nothing in Lean hashes anything: it is a label: what it is worth is what the hold of that sum in a sandbox is worth. -/
noncomputable def Try.pinned : Pinned := { name := "ytjnmcdajolbjfaa", sum := "05291af5199e48027a7225f54143ab2aca666b2754b4ba4a6f8971fe7dc97cfb", checked := Try.checked }
namespace Rows
def none {H : Type} : Left H := { results := [], args := [] }

/-- 'laws.FnExactConstants': WHATEVER THE INPUT: true; the input reads as it did. -/
def fnExactConstantsSpec : ChangeSpec := { name := "fnExactConstants", fn := fun _ => fun
  | [] => { results := [.lit (.bool true)], args := [] }
  | _ => none }
def fnExactConstantsRow : OpenClaim := { program := "ytjnmcdajolbjfaa", sum := "05291af5199e48027a7225f54143ab2aca666b2754b4ba4a6f8971fe7dc97cfb", func := "loop.example/g00012/laws.FnExactConstants", spec := "fnExactConstants", apart := false }
def FnExactConstantsSaid : Prop := fnExactConstantsRow.holds Try.pinned (OpenSpec.ofChange fnExactConstantsSpec)

/-- ITS FALSE NEIGHBOUR: 'it returns false'. Refute it at one input. -/
def fnExactConstantsWrong : ChangeSpec := { name := "fnExactConstants", fn := fun _ => fun
  | [] => { results := [.lit (.bool false)], args := [] }
  | _ => none }
def FnExactConstantsWrongFalsely : Prop := fnExactConstantsRow.holds Try.pinned (OpenSpec.ofChange fnExactConstantsWrong)

/-- 'laws.FnExactIdParts': WHATEVER THE INPUT: true; the input reads as it did. -/
def fnExactIdPartsSpec : ChangeSpec := { name := "fnExactIdParts", fn := fun _ => fun
  | [d] => { results := [.lit (.bool true)], args := [d] }
  | _ => none }
def fnExactIdPartsRow : OpenClaim := { program := "ytjnmcdajolbjfaa", sum := "05291af5199e48027a7225f54143ab2aca666b2754b4ba4a6f8971fe7dc97cfb", func := "loop.example/g00012/laws.FnExactIdParts", spec := "fnExactIdParts", apart := false }
def FnExactIdPartsSaid : Prop := fnExactIdPartsRow.holds Try.pinned (OpenSpec.ofChange fnExactIdPartsSpec)

/-- ITS FALSE NEIGHBOUR: 'it returns false'. Refute it at one input. -/
def fnExactIdPartsWrong : ChangeSpec := { name := "fnExactIdParts", fn := fun _ => fun
  | [d] => { results := [.lit (.bool false)], args := [d] }
  | _ => none }
def FnExactIdPartsWrongFalsely : Prop := fnExactIdPartsRow.holds Try.pinned (OpenSpec.ofChange fnExactIdPartsWrong)

/-- 'laws.FnExactPaceDelay': WHATEVER THE INPUT: true; the input reads as it did. -/
def fnExactPaceDelaySpec : ChangeSpec := { name := "fnExactPaceDelay", fn := fun _ => fun
  | [d1, d2] => { results := [.lit (.bool true)], args := [d1, d2] }
  | _ => none }
def fnExactPaceDelayRow : OpenClaim := { program := "ytjnmcdajolbjfaa", sum := "05291af5199e48027a7225f54143ab2aca666b2754b4ba4a6f8971fe7dc97cfb", func := "loop.example/g00012/laws.FnExactPaceDelay", spec := "fnExactPaceDelay", apart := false }
def FnExactPaceDelaySaid : Prop := fnExactPaceDelayRow.holds Try.pinned (OpenSpec.ofChange fnExactPaceDelaySpec)

/-- ITS FALSE NEIGHBOUR: 'it returns false'. Refute it at one input. -/
def fnExactPaceDelayWrong : ChangeSpec := { name := "fnExactPaceDelay", fn := fun _ => fun
  | [d1, d2] => { results := [.lit (.bool false)], args := [d1, d2] }
  | _ => none }
def FnExactPaceDelayWrongFalsely : Prop := fnExactPaceDelayRow.holds Try.pinned (OpenSpec.ofChange fnExactPaceDelayWrong)

/-- 'laws.FnExactCreditNext': WHATEVER THE INPUT: true; the input reads as it did. -/
def fnExactCreditNextSpec : ChangeSpec := { name := "fnExactCreditNext", fn := fun _ => fun
  | [d1, d2, d3] => { results := [.lit (.bool true)], args := [d1, d2, d3] }
  | _ => none }
def fnExactCreditNextRow : OpenClaim := { program := "ytjnmcdajolbjfaa", sum := "05291af5199e48027a7225f54143ab2aca666b2754b4ba4a6f8971fe7dc97cfb", func := "loop.example/g00012/laws.FnExactCreditNext", spec := "fnExactCreditNext", apart := false }
def FnExactCreditNextSaid : Prop := fnExactCreditNextRow.holds Try.pinned (OpenSpec.ofChange fnExactCreditNextSpec)

/-- ITS FALSE NEIGHBOUR: 'it returns false'. Refute it at one input. -/
def fnExactCreditNextWrong : ChangeSpec := { name := "fnExactCreditNext", fn := fun _ => fun
  | [d1, d2, d3] => { results := [.lit (.bool false)], args := [d1, d2, d3] }
  | _ => none }
def FnExactCreditNextWrongFalsely : Prop := fnExactCreditNextRow.holds Try.pinned (OpenSpec.ofChange fnExactCreditNextWrong)

/-- 'laws.FnExactCutNum': WHATEVER THE INPUT: true; the input reads as it did. -/
def fnExactCutNumSpec : ChangeSpec := { name := "fnExactCutNum", fn := fun _ => fun
  | [d1, d2] => { results := [.lit (.bool true)], args := [d1, d2] }
  | _ => none }
def fnExactCutNumRow : OpenClaim := { program := "ytjnmcdajolbjfaa", sum := "05291af5199e48027a7225f54143ab2aca666b2754b4ba4a6f8971fe7dc97cfb", func := "loop.example/g00012/laws.FnExactCutNum", spec := "fnExactCutNum", apart := false }
def FnExactCutNumSaid : Prop := fnExactCutNumRow.holds Try.pinned (OpenSpec.ofChange fnExactCutNumSpec)

/-- ITS FALSE NEIGHBOUR: 'it returns false'. Refute it at one input. -/
def fnExactCutNumWrong : ChangeSpec := { name := "fnExactCutNum", fn := fun _ => fun
  | [d1, d2] => { results := [.lit (.bool false)], args := [d1, d2] }
  | _ => none }
def FnExactCutNumWrongFalsely : Prop := fnExactCutNumRow.holds Try.pinned (OpenSpec.ofChange fnExactCutNumWrong)

/-- 'laws.FnExactIdOf': WHATEVER THE INPUT: true; the input reads as it did. -/
def fnExactIdOfSpec : ChangeSpec := { name := "fnExactIdOf", fn := fun _ => fun
  | [d1, d2, d3] => { results := [.lit (.bool true)], args := [d1, d2, d3] }
  | _ => none }
def fnExactIdOfRow : OpenClaim := { program := "ytjnmcdajolbjfaa", sum := "05291af5199e48027a7225f54143ab2aca666b2754b4ba4a6f8971fe7dc97cfb", func := "loop.example/g00012/laws.FnExactIdOf", spec := "fnExactIdOf", apart := false }
def FnExactIdOfSaid : Prop := fnExactIdOfRow.holds Try.pinned (OpenSpec.ofChange fnExactIdOfSpec)

/-- ITS FALSE NEIGHBOUR: 'it returns false'. Refute it at one input. -/
def fnExactIdOfWrong : ChangeSpec := { name := "fnExactIdOf", fn := fun _ => fun
  | [d1, d2, d3] => { results := [.lit (.bool false)], args := [d1, d2, d3] }
  | _ => none }
def FnExactIdOfWrongFalsely : Prop := fnExactIdOfRow.holds Try.pinned (OpenSpec.ofChange fnExactIdOfWrong)

/-- 'laws.FnExactVarLen': WHATEVER THE INPUT: true; the input reads as it did. -/
def fnExactVarLenSpec : ChangeSpec := { name := "fnExactVarLen", fn := fun _ => fun
  | [d] => { results := [.lit (.bool true)], args := [d] }
  | _ => none }
def fnExactVarLenRow : OpenClaim := { program := "ytjnmcdajolbjfaa", sum := "05291af5199e48027a7225f54143ab2aca666b2754b4ba4a6f8971fe7dc97cfb", func := "loop.example/g00012/laws.FnExactVarLen", spec := "fnExactVarLen", apart := false }
def FnExactVarLenSaid : Prop := fnExactVarLenRow.holds Try.pinned (OpenSpec.ofChange fnExactVarLenSpec)

/-- ITS FALSE NEIGHBOUR: 'it returns false'. Refute it at one input. -/
def fnExactVarLenWrong : ChangeSpec := { name := "fnExactVarLen", fn := fun _ => fun
  | [d] => { results := [.lit (.bool false)], args := [d] }
  | _ => none }
def FnExactVarLenWrongFalsely : Prop := fnExactVarLenRow.holds Try.pinned (OpenSpec.ofChange fnExactVarLenWrong)

/-- 'laws.FnExactNumBytes': WHATEVER THE INPUT: true; the input reads as it did. -/
def fnExactNumBytesSpec : ChangeSpec := { name := "fnExactNumBytes", fn := fun _ => fun
  | [d1, d2] => { results := [.lit (.bool true)], args := [d1, d2] }
  | _ => none }
def fnExactNumBytesRow : OpenClaim := { program := "ytjnmcdajolbjfaa", sum := "05291af5199e48027a7225f54143ab2aca666b2754b4ba4a6f8971fe7dc97cfb", func := "loop.example/g00012/laws.FnExactNumBytes", spec := "fnExactNumBytes", apart := false }
def FnExactNumBytesSaid : Prop := fnExactNumBytesRow.holds Try.pinned (OpenSpec.ofChange fnExactNumBytesSpec)

/-- ITS FALSE NEIGHBOUR: 'it returns false'. Refute it at one input. -/
def fnExactNumBytesWrong : ChangeSpec := { name := "fnExactNumBytes", fn := fun _ => fun
  | [d1, d2] => { results := [.lit (.bool false)], args := [d1, d2] }
  | _ => none }
def FnExactNumBytesWrongFalsely : Prop := fnExactNumBytesRow.holds Try.pinned (OpenSpec.ofChange fnExactNumBytesWrong)

/-- 'laws.FnExactLossDelay': WHATEVER THE INPUT: true; the input reads as it did. -/
def fnExactLossDelaySpec : ChangeSpec := { name := "fnExactLossDelay", fn := fun _ => fun
  | [d] => { results := [.lit (.bool true)], args := [d] }
  | _ => none }
def fnExactLossDelayRow : OpenClaim := { program := "ytjnmcdajolbjfaa", sum := "05291af5199e48027a7225f54143ab2aca666b2754b4ba4a6f8971fe7dc97cfb", func := "loop.example/g00012/laws.FnExactLossDelay", spec := "fnExactLossDelay", apart := false }
def FnExactLossDelaySaid : Prop := fnExactLossDelayRow.holds Try.pinned (OpenSpec.ofChange fnExactLossDelaySpec)

/-- ITS FALSE NEIGHBOUR: 'it returns false'. Refute it at one input. -/
def fnExactLossDelayWrong : ChangeSpec := { name := "fnExactLossDelay", fn := fun _ => fun
  | [d] => { results := [.lit (.bool false)], args := [d] }
  | _ => none }
def FnExactLossDelayWrongFalsely : Prop := fnExactLossDelayRow.holds Try.pinned (OpenSpec.ofChange fnExactLossDelayWrong)

/-- 'laws.FnExactExpandNum': WHATEVER THE INPUT: true; the input reads as it did. -/
def fnExactExpandNumSpec : ChangeSpec := { name := "fnExactExpandNum", fn := fun _ => fun
  | [d1, d2, d3] => { results := [.lit (.bool true)], args := [d1, d2, d3] }
  | _ => none }
def fnExactExpandNumRow : OpenClaim := { program := "ytjnmcdajolbjfaa", sum := "05291af5199e48027a7225f54143ab2aca666b2754b4ba4a6f8971fe7dc97cfb", func := "loop.example/g00012/laws.FnExactExpandNum", spec := "fnExactExpandNum", apart := false }
def FnExactExpandNumSaid : Prop := fnExactExpandNumRow.holds Try.pinned (OpenSpec.ofChange fnExactExpandNumSpec)

/-- ITS FALSE NEIGHBOUR: 'it returns false'. Refute it at one input. -/
def fnExactExpandNumWrong : ChangeSpec := { name := "fnExactExpandNum", fn := fun _ => fun
  | [d1, d2, d3] => { results := [.lit (.bool false)], args := [d1, d2, d3] }
  | _ => none }
def FnExactExpandNumWrongFalsely : Prop := fnExactExpandNumRow.holds Try.pinned (OpenSpec.ofChange fnExactExpandNumWrong)

/-- 'laws.FnExactProbeDelay': WHATEVER THE INPUT: true; the input reads as it did. -/
def fnExactProbeDelaySpec : ChangeSpec := { name := "fnExactProbeDelay", fn := fun _ => fun
  | [d1, d2, d3] => { results := [.lit (.bool true)], args := [d1, d2, d3] }
  | _ => none }
def fnExactProbeDelayRow : OpenClaim := { program := "ytjnmcdajolbjfaa", sum := "05291af5199e48027a7225f54143ab2aca666b2754b4ba4a6f8971fe7dc97cfb", func := "loop.example/g00012/laws.FnExactProbeDelay", spec := "fnExactProbeDelay", apart := false }
def FnExactProbeDelaySaid : Prop := fnExactProbeDelayRow.holds Try.pinned (OpenSpec.ofChange fnExactProbeDelaySpec)

/-- ITS FALSE NEIGHBOUR: 'it returns false'. Refute it at one input. -/
def fnExactProbeDelayWrong : ChangeSpec := { name := "fnExactProbeDelay", fn := fun _ => fun
  | [d1, d2, d3] => { results := [.lit (.bool false)], args := [d1, d2, d3] }
  | _ => none }
def FnExactProbeDelayWrongFalsely : Prop := fnExactProbeDelayRow.holds Try.pinned (OpenSpec.ofChange fnExactProbeDelayWrong)

/-- 'laws.FnExactRttStep': WHATEVER THE INPUT: true; the input reads as it did. -/
def fnExactRttStepSpec : ChangeSpec := { name := "fnExactRttStep", fn := fun _ => fun
  | [d1, d2, d3, d4] => { results := [.lit (.bool true)], args := [d1, d2, d3, d4] }
  | _ => none }
def fnExactRttStepRow : OpenClaim := { program := "ytjnmcdajolbjfaa", sum := "05291af5199e48027a7225f54143ab2aca666b2754b4ba4a6f8971fe7dc97cfb", func := "loop.example/g00012/laws.FnExactRttStep", spec := "fnExactRttStep", apart := false }
def FnExactRttStepSaid : Prop := fnExactRttStepRow.holds Try.pinned (OpenSpec.ofChange fnExactRttStepSpec)

/-- ITS FALSE NEIGHBOUR: 'it returns false'. Refute it at one input. -/
def fnExactRttStepWrong : ChangeSpec := { name := "fnExactRttStep", fn := fun _ => fun
  | [d1, d2, d3, d4] => { results := [.lit (.bool false)], args := [d1, d2, d3, d4] }
  | _ => none }
def FnExactRttStepWrongFalsely : Prop := fnExactRttStepRow.holds Try.pinned (OpenSpec.ofChange fnExactRttStepWrong)

/- THE SECOND FORM. 'bulk': how many values and letters a reading holds, each counted each time it is reached (what is shared counts as often as it is met; a slice's spare places count too). A statement '..UptoSaid' is the law's where the arguments, and the package variables that the reading takes, are together of bulk at most 1048576: NARROWER than '..Said'. Prove '..Said' where nothing that the law and all that it calls make is longer than what came in: it says more and counts as full. Else prove '..UptoSaid'. A law counts once. -/
mutual
def uptoBulk {H : Type} : DataW H → Nat
  | .lit (.string bytes) => bytes.length + 1
  | .lit _ => 1
  | .nil => 1
  | .ptr d => uptoBulk d + 1
  | .slice elems spare => uptoBulkAll elems + uptoBulkAll spare + 1
  | .agg parts => uptoBulkAll parts + 1
  | .iface _ d => uptoBulk d + 1
  | .map entries => uptoBulkEntries entries + 1
  | .held _ => 1
def uptoBulkAll {H : Type} : List (DataW H) → Nat
  | [] => 0
  | d :: r => uptoBulk d + uptoBulkAll r
def uptoBulkEntries {H : Type} : List (Lit × DataW H) → Nat
  | [] => 0
  | x :: r => uptoBulkEntry x + uptoBulkEntries r
def uptoBulkEntry {H : Type} : Lit × DataW H → Nat
  | (.string bytes, d) => bytes.length + uptoBulk d + 1
  | (_, d) => uptoBulk d + 1
 end
def uptoSmall : (H : Type) → List (DataW H) → Bool := fun _ ds => decide (uptoBulkAll ds ≤ 1048576)
def OpenSpec.upto (s : _root_.Go.ChangeSpec) : _root_.Go.OpenSpec := { _root_.Go.OpenSpec.ofChange s with cond := some uptoSmall }

/-- 'laws.FnExactConstants', WHERE WHAT IT READS IS OF BULK AT MOST 1048576: true; the input reads as it did. -/
def fnExactConstantsUptoRow : OpenClaim := { program := "ytjnmcdajolbjfaa", sum := "05291af5199e48027a7225f54143ab2aca666b2754b4ba4a6f8971fe7dc97cfb", func := "loop.example/g00012/laws.FnExactConstants", spec := "fnExactConstants", apart := false, narrowed := true }
def FnExactConstantsUptoSaid : Prop := fnExactConstantsUptoRow.holds Try.pinned (OpenSpec.upto fnExactConstantsSpec)

/-- 'laws.FnExactIdParts', WHERE WHAT IT READS IS OF BULK AT MOST 1048576: true; the input reads as it did. -/
def fnExactIdPartsUptoRow : OpenClaim := { program := "ytjnmcdajolbjfaa", sum := "05291af5199e48027a7225f54143ab2aca666b2754b4ba4a6f8971fe7dc97cfb", func := "loop.example/g00012/laws.FnExactIdParts", spec := "fnExactIdParts", apart := false, narrowed := true }
def FnExactIdPartsUptoSaid : Prop := fnExactIdPartsUptoRow.holds Try.pinned (OpenSpec.upto fnExactIdPartsSpec)

/-- 'laws.FnExactPaceDelay', WHERE WHAT IT READS IS OF BULK AT MOST 1048576: true; the input reads as it did. -/
def fnExactPaceDelayUptoRow : OpenClaim := { program := "ytjnmcdajolbjfaa", sum := "05291af5199e48027a7225f54143ab2aca666b2754b4ba4a6f8971fe7dc97cfb", func := "loop.example/g00012/laws.FnExactPaceDelay", spec := "fnExactPaceDelay", apart := false, narrowed := true }
def FnExactPaceDelayUptoSaid : Prop := fnExactPaceDelayUptoRow.holds Try.pinned (OpenSpec.upto fnExactPaceDelaySpec)

/-- 'laws.FnExactCreditNext', WHERE WHAT IT READS IS OF BULK AT MOST 1048576: true; the input reads as it did. -/
def fnExactCreditNextUptoRow : OpenClaim := { program := "ytjnmcdajolbjfaa", sum := "05291af5199e48027a7225f54143ab2aca666b2754b4ba4a6f8971fe7dc97cfb", func := "loop.example/g00012/laws.FnExactCreditNext", spec := "fnExactCreditNext", apart := false, narrowed := true }
def FnExactCreditNextUptoSaid : Prop := fnExactCreditNextUptoRow.holds Try.pinned (OpenSpec.upto fnExactCreditNextSpec)

/-- 'laws.FnExactCutNum', WHERE WHAT IT READS IS OF BULK AT MOST 1048576: true; the input reads as it did. -/
def fnExactCutNumUptoRow : OpenClaim := { program := "ytjnmcdajolbjfaa", sum := "05291af5199e48027a7225f54143ab2aca666b2754b4ba4a6f8971fe7dc97cfb", func := "loop.example/g00012/laws.FnExactCutNum", spec := "fnExactCutNum", apart := false, narrowed := true }
def FnExactCutNumUptoSaid : Prop := fnExactCutNumUptoRow.holds Try.pinned (OpenSpec.upto fnExactCutNumSpec)

/-- 'laws.FnExactIdOf', WHERE WHAT IT READS IS OF BULK AT MOST 1048576: true; the input reads as it did. -/
def fnExactIdOfUptoRow : OpenClaim := { program := "ytjnmcdajolbjfaa", sum := "05291af5199e48027a7225f54143ab2aca666b2754b4ba4a6f8971fe7dc97cfb", func := "loop.example/g00012/laws.FnExactIdOf", spec := "fnExactIdOf", apart := false, narrowed := true }
def FnExactIdOfUptoSaid : Prop := fnExactIdOfUptoRow.holds Try.pinned (OpenSpec.upto fnExactIdOfSpec)

/-- 'laws.FnExactVarLen', WHERE WHAT IT READS IS OF BULK AT MOST 1048576: true; the input reads as it did. -/
def fnExactVarLenUptoRow : OpenClaim := { program := "ytjnmcdajolbjfaa", sum := "05291af5199e48027a7225f54143ab2aca666b2754b4ba4a6f8971fe7dc97cfb", func := "loop.example/g00012/laws.FnExactVarLen", spec := "fnExactVarLen", apart := false, narrowed := true }
def FnExactVarLenUptoSaid : Prop := fnExactVarLenUptoRow.holds Try.pinned (OpenSpec.upto fnExactVarLenSpec)

/-- 'laws.FnExactNumBytes', WHERE WHAT IT READS IS OF BULK AT MOST 1048576: true; the input reads as it did. -/
def fnExactNumBytesUptoRow : OpenClaim := { program := "ytjnmcdajolbjfaa", sum := "05291af5199e48027a7225f54143ab2aca666b2754b4ba4a6f8971fe7dc97cfb", func := "loop.example/g00012/laws.FnExactNumBytes", spec := "fnExactNumBytes", apart := false, narrowed := true }
def FnExactNumBytesUptoSaid : Prop := fnExactNumBytesUptoRow.holds Try.pinned (OpenSpec.upto fnExactNumBytesSpec)

/-- 'laws.FnExactLossDelay', WHERE WHAT IT READS IS OF BULK AT MOST 1048576: true; the input reads as it did. -/
def fnExactLossDelayUptoRow : OpenClaim := { program := "ytjnmcdajolbjfaa", sum := "05291af5199e48027a7225f54143ab2aca666b2754b4ba4a6f8971fe7dc97cfb", func := "loop.example/g00012/laws.FnExactLossDelay", spec := "fnExactLossDelay", apart := false, narrowed := true }
def FnExactLossDelayUptoSaid : Prop := fnExactLossDelayUptoRow.holds Try.pinned (OpenSpec.upto fnExactLossDelaySpec)

/-- 'laws.FnExactExpandNum', WHERE WHAT IT READS IS OF BULK AT MOST 1048576: true; the input reads as it did. -/
def fnExactExpandNumUptoRow : OpenClaim := { program := "ytjnmcdajolbjfaa", sum := "05291af5199e48027a7225f54143ab2aca666b2754b4ba4a6f8971fe7dc97cfb", func := "loop.example/g00012/laws.FnExactExpandNum", spec := "fnExactExpandNum", apart := false, narrowed := true }
def FnExactExpandNumUptoSaid : Prop := fnExactExpandNumUptoRow.holds Try.pinned (OpenSpec.upto fnExactExpandNumSpec)

/-- 'laws.FnExactProbeDelay', WHERE WHAT IT READS IS OF BULK AT MOST 1048576: true; the input reads as it did. -/
def fnExactProbeDelayUptoRow : OpenClaim := { program := "ytjnmcdajolbjfaa", sum := "05291af5199e48027a7225f54143ab2aca666b2754b4ba4a6f8971fe7dc97cfb", func := "loop.example/g00012/laws.FnExactProbeDelay", spec := "fnExactProbeDelay", apart := false, narrowed := true }
def FnExactProbeDelayUptoSaid : Prop := fnExactProbeDelayUptoRow.holds Try.pinned (OpenSpec.upto fnExactProbeDelaySpec)

/-- 'laws.FnExactRttStep', WHERE WHAT IT READS IS OF BULK AT MOST 1048576: true; the input reads as it did. -/
def fnExactRttStepUptoRow : OpenClaim := { program := "ytjnmcdajolbjfaa", sum := "05291af5199e48027a7225f54143ab2aca666b2754b4ba4a6f8971fe7dc97cfb", func := "loop.example/g00012/laws.FnExactRttStep", spec := "fnExactRttStep", apart := false, narrowed := true }
def FnExactRttStepUptoSaid : Prop := fnExactRttStepUptoRow.holds Try.pinned (OpenSpec.upto fnExactRttStepSpec)

end Rows
end Go.Proofs.Ytjnmcdajolbjfaa
