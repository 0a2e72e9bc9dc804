/-
  No cell of these rows narrows 'for every input' (looked for: loops, veiled, ifaces, maps, wideKeys, modest, calm, conditions, laid).
  DERIVED. THE GIVEN ROWS OF THIS SEAT. 3 by the template 'for every input the law returns true; each argument reads behind the call as it read before'; 0 by the template 'total and deterministic' (their statements: YtegibojgmandmaaGreatTotals.lean).
  GIVEN WITH THE SEED: the statements are not yours to turn. If you find one false, say at which input.
  Laid BY PROGRAM, IN A SANDBOX (cutbox-rows.mjs): the forced cells as the released guide's own fill.sh prints them over the translation 770d19182c3703a9… (all of the seat's roots in one cut). By AI agents, Wed Nov 11 2026. No macro, syntax, notation, axiom, sorry.
-/
import Derived.Test.YtegibojgmandmaaGreatChecked
import GoSem.Claim
import GoSem.ClaimJoined
import GoSem.ClaimMapViews
import Derived.JoinedTies
import Derived.KernelRfl
namespace Go.Proofs.YtegibojgmandmaaGreat
/- THE CELL 'sum', in the pinned program and in every row, IS THE sha256 OF THE DUMP (.gsa) THAT YtegibojgmandmaaGreatProg.lean LOADS. Nothing in Lean hashes anything: it is a label: what it is worth is what the hold of that sum in a sandbox is worth. -/
noncomputable def Tryz.pinned : Pinned := { name := "ytegibojgmandmaagreat", sum := "770d19182c3703a91da64ca8508e080c3c6a01c9a2e3c68a77d1c99cdfa6d8f6", checked := Tryz.checked }
namespace Rows
def none {H : Type} : Left H := { results := [], args := [] }

/-- 'runriglaw9.SureChecks': WHATEVER THE INPUT: true; the input reads as it did. -/
def sureChecksSpec : ChangeSpec := { name := "sureChecks", fn := fun _ => fun
  | [d] => { results := [.lit (.bool true)], args := [d] }
  | _ => none }
def sureChecksRow : OpenClaim := { program := "ytegibojgmandmaagreat", sum := "770d19182c3703a91da64ca8508e080c3c6a01c9a2e3c68a77d1c99cdfa6d8f6", func := "runrig/runriglaw9.SureChecks", spec := "sureChecks", unfollowed := true, recurses := true, apart := false }
def SureChecksSaid : Prop := sureChecksRow.holds Tryz.pinned (OpenSpec.ofChange sureChecksSpec)

/-- ITS FALSE NEIGHBOUR: 'it returns false'. Refute it at one input. -/
def sureChecksWrong : ChangeSpec := { name := "sureChecks", fn := fun _ => fun
  | [d] => { results := [.lit (.bool false)], args := [d] }
  | _ => none }
def SureChecksWrongFalsely : Prop := sureChecksRow.holds Tryz.pinned (OpenSpec.ofChange sureChecksWrong)

/-- 'runriglaw9.SureLaid': WHATEVER THE INPUT: true; the input reads as it did. -/
def sureLaidSpec : ChangeSpec := { name := "sureLaid", fn := fun _ => fun
  | [d] => { results := [.lit (.bool true)], args := [d] }
  | _ => none }
def sureLaidRow : OpenClaim := { program := "ytegibojgmandmaagreat", sum := "770d19182c3703a91da64ca8508e080c3c6a01c9a2e3c68a77d1c99cdfa6d8f6", func := "runrig/runriglaw9.SureLaid", spec := "sureLaid", unfollowed := true, recurses := true, apart := false }
def SureLaidSaid : Prop := sureLaidRow.holds Tryz.pinned (OpenSpec.ofChange sureLaidSpec)

/-- ITS FALSE NEIGHBOUR: 'it returns false'. Refute it at one input. -/
def sureLaidWrong : ChangeSpec := { name := "sureLaid", fn := fun _ => fun
  | [d] => { results := [.lit (.bool false)], args := [d] }
  | _ => none }
def SureLaidWrongFalsely : Prop := sureLaidRow.holds Tryz.pinned (OpenSpec.ofChange sureLaidWrong)

/-- 'runriglaw9.SureMore': WHATEVER THE INPUT: true; the input reads as it did. -/
def sureMoreSpec : ChangeSpec := { name := "sureMore", fn := fun _ => fun
  | [d1, d2] => { results := [.lit (.bool true)], args := [d1, d2] }
  | _ => none }
def sureMoreRow : OpenClaim := { program := "ytegibojgmandmaagreat", sum := "770d19182c3703a91da64ca8508e080c3c6a01c9a2e3c68a77d1c99cdfa6d8f6", func := "runrig/runriglaw9.SureMore", spec := "sureMore", unfollowed := true, recurses := true, apart := false }
def SureMoreSaid : Prop := sureMoreRow.holds Tryz.pinned (OpenSpec.ofChange sureMoreSpec)

/-- ITS FALSE NEIGHBOUR: 'it returns false'. Refute it at one input. -/
def sureMoreWrong : ChangeSpec := { name := "sureMore", fn := fun _ => fun
  | [d1, d2] => { results := [.lit (.bool false)], args := [d1, d2] }
  | _ => none }
def SureMoreWrongFalsely : Prop := sureMoreRow.holds Tryz.pinned (OpenSpec.ofChange sureMoreWrong)

/- THE SECOND FORM. 'bulk': how many values and letters a reading holds, each counted each time it is reached (what is shared counts as often as it is met; a slice's spare places count too). A statement '..UptoSaid' is the law's where the arguments, and the package variables that the reading takes, are together of bulk at most 1048576: NARROWER than '..Said'. Prove '..Said' where nothing that the law and all that it calls make is longer than what came in: it says more and counts as full. Else prove '..UptoSaid'. A law counts once. -/
mutual
def uptoBulk {H : Type} : DataW H → Nat
  | .lit (.string bytes) => bytes.length + 1
  | .lit _ => 1
  | .nil => 1
  | .ptr d => uptoBulk d + 1
  | .slice elems spare => uptoBulkAll elems + uptoBulkAll spare + 1
  | .agg parts => uptoBulkAll parts + 1
  | .iface _ d => uptoBulk d + 1
  | .map entries => uptoBulkEntries entries + 1
  | .held _ => 1
def uptoBulkAll {H : Type} : List (DataW H) → Nat
  | [] => 0
  | d :: r => uptoBulk d + uptoBulkAll r
def uptoBulkEntries {H : Type} : List (Lit × DataW H) → Nat
  | [] => 0
  | x :: r => uptoBulkEntry x + uptoBulkEntries r
def uptoBulkEntry {H : Type} : Lit × DataW H → Nat
  | (.string bytes, d) => bytes.length + uptoBulk d + 1
  | (_, d) => uptoBulk d + 1
 end
def uptoSmall : (H : Type) → List (DataW H) → Bool := fun _ ds => decide (uptoBulkAll ds ≤ 1048576)
def OpenSpec.upto (s : _root_.Go.ChangeSpec) : _root_.Go.OpenSpec := { _root_.Go.OpenSpec.ofChange s with cond := some uptoSmall }

/-- 'runriglaw9.SureChecks', WHERE WHAT IT READS IS OF BULK AT MOST 1048576: true; the input reads as it did. -/
def sureChecksUptoRow : OpenClaim := { program := "ytegibojgmandmaagreat", sum := "770d19182c3703a91da64ca8508e080c3c6a01c9a2e3c68a77d1c99cdfa6d8f6", func := "runrig/runriglaw9.SureChecks", spec := "sureChecks", unfollowed := true, recurses := true, apart := false, narrowed := true }
def SureChecksUptoSaid : Prop := sureChecksUptoRow.holds Tryz.pinned (OpenSpec.upto sureChecksSpec)

/-- 'runriglaw9.SureLaid', WHERE WHAT IT READS IS OF BULK AT MOST 1048576: true; the input reads as it did. -/
def sureLaidUptoRow : OpenClaim := { program := "ytegibojgmandmaagreat", sum := "770d19182c3703a91da64ca8508e080c3c6a01c9a2e3c68a77d1c99cdfa6d8f6", func := "runrig/runriglaw9.SureLaid", spec := "sureLaid", unfollowed := true, recurses := true, apart := false, narrowed := true }
def SureLaidUptoSaid : Prop := sureLaidUptoRow.holds Tryz.pinned (OpenSpec.upto sureLaidSpec)

/-- 'runriglaw9.SureMore', WHERE WHAT IT READS IS OF BULK AT MOST 1048576: true; the input reads as it did. -/
def sureMoreUptoRow : OpenClaim := { program := "ytegibojgmandmaagreat", sum := "770d19182c3703a91da64ca8508e080c3c6a01c9a2e3c68a77d1c99cdfa6d8f6", func := "runrig/runriglaw9.SureMore", spec := "sureMore", unfollowed := true, recurses := true, apart := false, narrowed := true }
def SureMoreUptoSaid : Prop := sureMoreUptoRow.holds Tryz.pinned (OpenSpec.upto sureMoreSpec)

end Rows
end Go.Proofs.YtegibojgmandmaaGreat
