/-
  No cell of these rows narrows 'for every input' (looked for: loops, veiled, ifaces, maps, wideKeys, modest, calm, conditions, laid).
  DERIVED. THE GIVEN ROWS OF THIS SEAT. 5 by the template 'for every input the law returns true; each argument reads behind the call as it read before'; 0 by the template 'total and deterministic' (their statements: YtffjnjnkhjmgfaaTotals.lean).
  GIVEN WITH THE SEED: the statements are not yours to turn. If you find one false, say at which input.
  Laid BY PROGRAM, IN A SANDBOX (cutbox-rows.mjs): the forced cells as the released guide's own fill.sh prints them over the translation 600110a0c0c7be0b… (all of the seat's roots in one cut). By AI agents, Wed Nov 11 2026. No macro, syntax, notation, axiom, sorry.
-/
import Derived.Test.YtffjnjnkhjmgfaaChecked
import GoSem.Claim
import GoSem.ClaimJoined
import GoSem.ClaimMapViews
import Derived.JoinedTies
import Derived.KernelRfl
namespace Go.Proofs.Ytffjnjnkhjmgfaa
/- THE CELL 'sum', in the pinned program and in every row, IS THE sha256 OF THE DUMP (.gsa) THAT YtffjnjnkhjmgfaaProg.lean LOADS. Nothing in Lean hashes anything: it is a label: what it is worth is what the hold of that sum in a sandbox is worth. -/
noncomputable def Try.pinned : Pinned := { name := "ytffjnjnkhjmgfaa", sum := "600110a0c0c7be0b52300163390a9fca7cb9ade16c780b4b98e745e3841ac34b", checked := Try.checked }
namespace Rows
def none {H : Type} : Left H := { results := [], args := [] }

/-- 'runriglaw12.IrRight': WHATEVER THE INPUT: true; the input reads as it did. -/
def irRightSpec : ChangeSpec := { name := "irRight", fn := fun _ => fun
  | [d] => { results := [.lit (.bool true)], args := [d] }
  | _ => none }
def irRightRow : OpenClaim := { program := "ytffjnjnkhjmgfaa", sum := "600110a0c0c7be0b52300163390a9fca7cb9ade16c780b4b98e745e3841ac34b", func := "runrig/runriglaw12.IrRight", spec := "irRight", apart := false }
def IrRightSaid : Prop := irRightRow.holds Try.pinned (OpenSpec.ofChange irRightSpec)

/-- ITS FALSE NEIGHBOUR: 'it returns false'. Refute it at one input. -/
def irRightWrong : ChangeSpec := { name := "irRight", fn := fun _ => fun
  | [d] => { results := [.lit (.bool false)], args := [d] }
  | _ => none }
def IrRightWrongFalsely : Prop := irRightRow.holds Try.pinned (OpenSpec.ofChange irRightWrong)

/-- 'runriglaw12.IrSteps': WHATEVER THE INPUT: true; the input reads as it did. -/
def irStepsSpec : ChangeSpec := { name := "irSteps", fn := fun _ => fun
  | [d1, d2, d3] => { results := [.lit (.bool true)], args := [d1, d2, d3] }
  | _ => none }
def irStepsRow : OpenClaim := { program := "ytffjnjnkhjmgfaa", sum := "600110a0c0c7be0b52300163390a9fca7cb9ade16c780b4b98e745e3841ac34b", func := "runrig/runriglaw12.IrSteps", spec := "irSteps", apart := false }
def IrStepsSaid : Prop := irStepsRow.holds Try.pinned (OpenSpec.ofChange irStepsSpec)

/-- ITS FALSE NEIGHBOUR: 'it returns false'. Refute it at one input. -/
def irStepsWrong : ChangeSpec := { name := "irSteps", fn := fun _ => fun
  | [d1, d2, d3] => { results := [.lit (.bool false)], args := [d1, d2, d3] }
  | _ => none }
def IrStepsWrongFalsely : Prop := irStepsRow.holds Try.pinned (OpenSpec.ofChange irStepsWrong)

/-- 'runriglaw12.IrTurned': WHATEVER THE INPUT: true; the input reads as it did. -/
def irTurnedSpec : ChangeSpec := { name := "irTurned", fn := fun _ => fun
  | [d1, d2, d3, d4] => { results := [.lit (.bool true)], args := [d1, d2, d3, d4] }
  | _ => none }
def irTurnedRow : OpenClaim := { program := "ytffjnjnkhjmgfaa", sum := "600110a0c0c7be0b52300163390a9fca7cb9ade16c780b4b98e745e3841ac34b", func := "runrig/runriglaw12.IrTurned", spec := "irTurned", apart := false }
def IrTurnedSaid : Prop := irTurnedRow.holds Try.pinned (OpenSpec.ofChange irTurnedSpec)

/-- ITS FALSE NEIGHBOUR: 'it returns false'. Refute it at one input. -/
def irTurnedWrong : ChangeSpec := { name := "irTurned", fn := fun _ => fun
  | [d1, d2, d3, d4] => { results := [.lit (.bool false)], args := [d1, d2, d3, d4] }
  | _ => none }
def IrTurnedWrongFalsely : Prop := irTurnedRow.holds Try.pinned (OpenSpec.ofChange irTurnedWrong)

/-- 'runriglaw12.IrOps': WHATEVER THE INPUT: true; the input reads as it did. -/
def irOpsSpec : ChangeSpec := { name := "irOps", fn := fun _ => fun
  | [d1, d2, d3, d4, d5] => { results := [.lit (.bool true)], args := [d1, d2, d3, d4, d5] }
  | _ => none }
def irOpsRow : OpenClaim := { program := "ytffjnjnkhjmgfaa", sum := "600110a0c0c7be0b52300163390a9fca7cb9ade16c780b4b98e745e3841ac34b", func := "runrig/runriglaw12.IrOps", spec := "irOps", apart := false }
def IrOpsSaid : Prop := irOpsRow.holds Try.pinned (OpenSpec.ofChange irOpsSpec)

/-- ITS FALSE NEIGHBOUR: 'it returns false'. Refute it at one input. -/
def irOpsWrong : ChangeSpec := { name := "irOps", fn := fun _ => fun
  | [d1, d2, d3, d4, d5] => { results := [.lit (.bool false)], args := [d1, d2, d3, d4, d5] }
  | _ => none }
def IrOpsWrongFalsely : Prop := irOpsRow.holds Try.pinned (OpenSpec.ofChange irOpsWrong)

/-- 'runriglaw12.IrCells': WHATEVER THE INPUT: true; the input reads as it did. -/
def irCellsSpec : ChangeSpec := { name := "irCells", fn := fun _ => fun
  | [d1, d2] => { results := [.lit (.bool true)], args := [d1, d2] }
  | _ => none }
def irCellsRow : OpenClaim := { program := "ytffjnjnkhjmgfaa", sum := "600110a0c0c7be0b52300163390a9fca7cb9ade16c780b4b98e745e3841ac34b", func := "runrig/runriglaw12.IrCells", spec := "irCells", apart := false }
def IrCellsSaid : Prop := irCellsRow.holds Try.pinned (OpenSpec.ofChange irCellsSpec)

/-- ITS FALSE NEIGHBOUR: 'it returns false'. Refute it at one input. -/
def irCellsWrong : ChangeSpec := { name := "irCells", fn := fun _ => fun
  | [d1, d2] => { results := [.lit (.bool false)], args := [d1, d2] }
  | _ => none }
def IrCellsWrongFalsely : Prop := irCellsRow.holds Try.pinned (OpenSpec.ofChange irCellsWrong)

/- THE SECOND FORM. 'bulk': how many values and letters a reading holds, each counted each time it is reached (what is shared counts as often as it is met; a slice's spare places count too). A statement '..UptoSaid' is the law's where the arguments, and the package variables that the reading takes, are together of bulk at most 1048576: NARROWER than '..Said'. Prove '..Said' where nothing that the law and all that it calls make is longer than what came in: it says more and counts as full. Else prove '..UptoSaid'. A law counts once. -/
mutual
def uptoBulk {H : Type} : DataW H → Nat
  | .lit (.string bytes) => bytes.length + 1
  | .lit _ => 1
  | .nil => 1
  | .ptr d => uptoBulk d + 1
  | .slice elems spare => uptoBulkAll elems + uptoBulkAll spare + 1
  | .agg parts => uptoBulkAll parts + 1
  | .iface _ d => uptoBulk d + 1
  | .map entries => uptoBulkEntries entries + 1
  | .held _ => 1
def uptoBulkAll {H : Type} : List (DataW H) → Nat
  | [] => 0
  | d :: r => uptoBulk d + uptoBulkAll r
def uptoBulkEntries {H : Type} : List (Lit × DataW H) → Nat
  | [] => 0
  | x :: r => uptoBulkEntry x + uptoBulkEntries r
def uptoBulkEntry {H : Type} : Lit × DataW H → Nat
  | (.string bytes, d) => bytes.length + uptoBulk d + 1
  | (_, d) => uptoBulk d + 1
 end
def uptoSmall : (H : Type) → List (DataW H) → Bool := fun _ ds => decide (uptoBulkAll ds ≤ 1048576)
def OpenSpec.upto (s : _root_.Go.ChangeSpec) : _root_.Go.OpenSpec := { _root_.Go.OpenSpec.ofChange s with cond := some uptoSmall }

/-- 'runriglaw12.IrRight', WHERE WHAT IT READS IS OF BULK AT MOST 1048576: true; the input reads as it did. -/
def irRightUptoRow : OpenClaim := { program := "ytffjnjnkhjmgfaa", sum := "600110a0c0c7be0b52300163390a9fca7cb9ade16c780b4b98e745e3841ac34b", func := "runrig/runriglaw12.IrRight", spec := "irRight", apart := false, narrowed := true }
def IrRightUptoSaid : Prop := irRightUptoRow.holds Try.pinned (OpenSpec.upto irRightSpec)

/-- 'runriglaw12.IrSteps', WHERE WHAT IT READS IS OF BULK AT MOST 1048576: true; the input reads as it did. -/
def irStepsUptoRow : OpenClaim := { program := "ytffjnjnkhjmgfaa", sum := "600110a0c0c7be0b52300163390a9fca7cb9ade16c780b4b98e745e3841ac34b", func := "runrig/runriglaw12.IrSteps", spec := "irSteps", apart := false, narrowed := true }
def IrStepsUptoSaid : Prop := irStepsUptoRow.holds Try.pinned (OpenSpec.upto irStepsSpec)

/-- 'runriglaw12.IrTurned', WHERE WHAT IT READS IS OF BULK AT MOST 1048576: true; the input reads as it did. -/
def irTurnedUptoRow : OpenClaim := { program := "ytffjnjnkhjmgfaa", sum := "600110a0c0c7be0b52300163390a9fca7cb9ade16c780b4b98e745e3841ac34b", func := "runrig/runriglaw12.IrTurned", spec := "irTurned", apart := false, narrowed := true }
def IrTurnedUptoSaid : Prop := irTurnedUptoRow.holds Try.pinned (OpenSpec.upto irTurnedSpec)

/-- 'runriglaw12.IrOps', WHERE WHAT IT READS IS OF BULK AT MOST 1048576: true; the input reads as it did. -/
def irOpsUptoRow : OpenClaim := { program := "ytffjnjnkhjmgfaa", sum := "600110a0c0c7be0b52300163390a9fca7cb9ade16c780b4b98e745e3841ac34b", func := "runrig/runriglaw12.IrOps", spec := "irOps", apart := false, narrowed := true }
def IrOpsUptoSaid : Prop := irOpsUptoRow.holds Try.pinned (OpenSpec.upto irOpsSpec)

/-- 'runriglaw12.IrCells', WHERE WHAT IT READS IS OF BULK AT MOST 1048576: true; the input reads as it did. -/
def irCellsUptoRow : OpenClaim := { program := "ytffjnjnkhjmgfaa", sum := "600110a0c0c7be0b52300163390a9fca7cb9ade16c780b4b98e745e3841ac34b", func := "runrig/runriglaw12.IrCells", spec := "irCells", apart := false, narrowed := true }
def IrCellsUptoSaid : Prop := irCellsUptoRow.holds Try.pinned (OpenSpec.upto irCellsSpec)

end Rows
end Go.Proofs.Ytffjnjnkhjmgfaa
