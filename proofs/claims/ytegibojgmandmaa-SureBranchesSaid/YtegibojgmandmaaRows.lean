/-
  No cell of these rows narrows 'for every input' (looked for: loops, veiled, ifaces, maps, wideKeys, modest, calm, conditions, laid).
  DERIVED. THE GIVEN ROWS OF THIS SEAT. 2 by the template 'for every input the law returns true; each argument reads behind the call as it read before'; 0 by the template 'total and deterministic' (their statements: YtegibojgmandmaaTotals.lean).
  GIVEN WITH THE SEED: the statements are not yours to turn. If you find one false, say at which input.
  Laid BY PROGRAM, IN A SANDBOX (cutbox-rows.mjs): the forced cells as the released guide's own fill.sh prints them over the translation 497073cbcba7472d… (all of the seat's roots in one cut). By AI agents, Wed Nov 11 2026. No macro, syntax, notation, axiom, sorry.
-/
import Derived.Test.YtegibojgmandmaaChecked
import GoSem.Claim
import GoSem.ClaimJoined
import GoSem.ClaimMapViews
import Derived.JoinedTies
import Derived.KernelRfl
namespace Go.Proofs.Ytegibojgmandmaa
/- THE CELL 'sum', in the pinned program and in every row, IS THE sha256 OF THE DUMP (.gsa) THAT YtegibojgmandmaaProg.lean LOADS. Nothing in Lean hashes anything: it is a label: what it is worth is what the hold of that sum in a sandbox is worth. -/
noncomputable def Try.pinned : Pinned := { name := "ytegibojgmandmaa", sum := "497073cbcba7472d41d8e18666f9fd27d999763b195b006d41ae020d9e05b73e", checked := Try.checked }
namespace Rows
def none {H : Type} : Left H := { results := [], args := [] }

/-- 'runriglaw9.SureOdd': WHATEVER THE INPUT: true; the input reads as it did. -/
def sureOddSpec : ChangeSpec := { name := "sureOdd", fn := fun _ => fun
  | [d] => { results := [.lit (.bool true)], args := [d] }
  | _ => none }
def sureOddRow : OpenClaim := { program := "ytegibojgmandmaa", sum := "497073cbcba7472d41d8e18666f9fd27d999763b195b006d41ae020d9e05b73e", func := "runrig/runriglaw9.SureOdd", spec := "sureOdd", unfollowed := true, recurses := true, apart := false }
def SureOddSaid : Prop := sureOddRow.holds Try.pinned (OpenSpec.ofChange sureOddSpec)

/-- ITS FALSE NEIGHBOUR: 'it returns false'. Refute it at one input. -/
def sureOddWrong : ChangeSpec := { name := "sureOdd", fn := fun _ => fun
  | [d] => { results := [.lit (.bool false)], args := [d] }
  | _ => none }
def SureOddWrongFalsely : Prop := sureOddRow.holds Try.pinned (OpenSpec.ofChange sureOddWrong)

/-- 'runriglaw9.SureBranches': WHATEVER THE INPUT: true; the input reads as it did. -/
def sureBranchesSpec : ChangeSpec := { name := "sureBranches", fn := fun _ => fun
  | [d] => { results := [.lit (.bool true)], args := [d] }
  | _ => none }
def sureBranchesRow : OpenClaim := { program := "ytegibojgmandmaa", sum := "497073cbcba7472d41d8e18666f9fd27d999763b195b006d41ae020d9e05b73e", func := "runrig/runriglaw9.SureBranches", spec := "sureBranches", unfollowed := true, recurses := true, apart := false }
def SureBranchesSaid : Prop := sureBranchesRow.holds Try.pinned (OpenSpec.ofChange sureBranchesSpec)

/-- ITS FALSE NEIGHBOUR: 'it returns false'. Refute it at one input. -/
def sureBranchesWrong : ChangeSpec := { name := "sureBranches", fn := fun _ => fun
  | [d] => { results := [.lit (.bool false)], args := [d] }
  | _ => none }
def SureBranchesWrongFalsely : Prop := sureBranchesRow.holds Try.pinned (OpenSpec.ofChange sureBranchesWrong)

/- THE SECOND FORM. 'bulk': how many values and letters a reading holds, each counted each time it is reached (what is shared counts as often as it is met; a slice's spare places count too). A statement '..UptoSaid' is the law's where the arguments, and the package variables that the reading takes, are together of bulk at most 1048576: NARROWER than '..Said'. Prove '..Said' where nothing that the law and all that it calls make is longer than what came in: it says more and counts as full. Else prove '..UptoSaid'. A law counts once. -/
mutual
def uptoBulk {H : Type} : DataW H → Nat
  | .lit (.string bytes) => bytes.length + 1
  | .lit _ => 1
  | .nil => 1
  | .ptr d => uptoBulk d + 1
  | .slice elems spare => uptoBulkAll elems + uptoBulkAll spare + 1
  | .agg parts => uptoBulkAll parts + 1
  | .iface _ d => uptoBulk d + 1
  | .map entries => uptoBulkEntries entries + 1
  | .held _ => 1
def uptoBulkAll {H : Type} : List (DataW H) → Nat
  | [] => 0
  | d :: r => uptoBulk d + uptoBulkAll r
def uptoBulkEntries {H : Type} : List (Lit × DataW H) → Nat
  | [] => 0
  | x :: r => uptoBulkEntry x + uptoBulkEntries r
def uptoBulkEntry {H : Type} : Lit × DataW H → Nat
  | (.string bytes, d) => bytes.length + uptoBulk d + 1
  | (_, d) => uptoBulk d + 1
 end
def uptoSmall : (H : Type) → List (DataW H) → Bool := fun _ ds => decide (uptoBulkAll ds ≤ 1048576)
def OpenSpec.upto (s : _root_.Go.ChangeSpec) : _root_.Go.OpenSpec := { _root_.Go.OpenSpec.ofChange s with cond := some uptoSmall }

/-- 'runriglaw9.SureOdd', WHERE WHAT IT READS IS OF BULK AT MOST 1048576: true; the input reads as it did. -/
def sureOddUptoRow : OpenClaim := { program := "ytegibojgmandmaa", sum := "497073cbcba7472d41d8e18666f9fd27d999763b195b006d41ae020d9e05b73e", func := "runrig/runriglaw9.SureOdd", spec := "sureOdd", unfollowed := true, recurses := true, apart := false, narrowed := true }
def SureOddUptoSaid : Prop := sureOddUptoRow.holds Try.pinned (OpenSpec.upto sureOddSpec)

/-- 'runriglaw9.SureBranches', WHERE WHAT IT READS IS OF BULK AT MOST 1048576: true; the input reads as it did. -/
def sureBranchesUptoRow : OpenClaim := { program := "ytegibojgmandmaa", sum := "497073cbcba7472d41d8e18666f9fd27d999763b195b006d41ae020d9e05b73e", func := "runrig/runriglaw9.SureBranches", spec := "sureBranches", unfollowed := true, recurses := true, apart := false, narrowed := true }
def SureBranchesUptoSaid : Prop := sureBranchesUptoRow.holds Try.pinned (OpenSpec.upto sureBranchesSpec)

end Rows
end Go.Proofs.Ytegibojgmandmaa
