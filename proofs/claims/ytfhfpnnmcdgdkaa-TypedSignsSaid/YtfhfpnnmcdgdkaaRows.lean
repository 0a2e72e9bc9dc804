/-
  No cell of these rows narrows 'for every input' (looked for: loops, veiled, ifaces, maps, wideKeys, modest, calm, conditions, laid).
  DERIVED. THE GIVEN ROWS OF THIS SEAT. 3 by the template 'for every input the law returns true; each argument reads behind the call as it read before'; 0 by the template 'total and deterministic' (their statements: YtfhfpnnmcdgdkaaTotals.lean).
  GIVEN WITH THE SEED: the statements are not yours to turn. If you find one false, say at which input.
  Laid BY PROGRAM, IN A SANDBOX (cutbox-rows.mjs): the forced cells as the released guide's own fill.sh prints them over the translation 3bacf590e202943d… (all of the seat's roots in one cut). By AI agents, Wed Nov 11 2026. No macro, syntax, notation, axiom, sorry.
-/
import Derived.Test.YtfhfpnnmcdgdkaaChecked
import GoSem.Claim
import GoSem.ClaimJoined
import GoSem.ClaimMapViews
import Derived.JoinedTies
import Derived.KernelRfl
namespace Go.Proofs.Ytfhfpnnmcdgdkaa
/- THE CELL 'sum', in the pinned program and in every row, IS THE sha256 OF THE DUMP (.gsa) THAT YtfhfpnnmcdgdkaaProg.lean LOADS. Nothing in Lean hashes anything: it is a label: what it is worth is what the hold of that sum in a sandbox is worth. -/
noncomputable def Try.pinned : Pinned := { name := "ytfhfpnnmcdgdkaa", sum := "3bacf590e202943dffae788b7b9b0cab58358d88ed1469987a30b088b9526656", checked := Try.checked }
namespace Rows
def none {H : Type} : Left H := { results := [], args := [] }

/-- 'runriglaw8.TypedAgain': WHATEVER THE INPUT: true; the input reads as it did. -/
def typedAgainSpec : ChangeSpec := { name := "typedAgain", fn := fun _ => fun
  | [d] => { results := [.lit (.bool true)], args := [d] }
  | _ => none }
def typedAgainRow : OpenClaim := { program := "ytfhfpnnmcdgdkaa", sum := "3bacf590e202943dffae788b7b9b0cab58358d88ed1469987a30b088b9526656", func := "runrig/runriglaw8.TypedAgain", spec := "typedAgain", unfollowed := true, recurses := true, apart := false }
def TypedAgainSaid : Prop := typedAgainRow.holds Try.pinned (OpenSpec.ofChange typedAgainSpec)

/-- ITS FALSE NEIGHBOUR: 'it returns false'. Refute it at one input. -/
def typedAgainWrong : ChangeSpec := { name := "typedAgain", fn := fun _ => fun
  | [d] => { results := [.lit (.bool false)], args := [d] }
  | _ => none }
def TypedAgainWrongFalsely : Prop := typedAgainRow.holds Try.pinned (OpenSpec.ofChange typedAgainWrong)

/-- 'runriglaw8.TypedSigns': WHATEVER THE INPUT: true; the input reads as it did. -/
def typedSignsSpec : ChangeSpec := { name := "typedSigns", fn := fun _ => fun
  | [d1, d2, d3] => { results := [.lit (.bool true)], args := [d1, d2, d3] }
  | _ => none }
def typedSignsRow : OpenClaim := { program := "ytfhfpnnmcdgdkaa", sum := "3bacf590e202943dffae788b7b9b0cab58358d88ed1469987a30b088b9526656", func := "runrig/runriglaw8.TypedSigns", spec := "typedSigns", unfollowed := true, recurses := true, apart := false }
def TypedSignsSaid : Prop := typedSignsRow.holds Try.pinned (OpenSpec.ofChange typedSignsSpec)

/-- ITS FALSE NEIGHBOUR: 'it returns false'. Refute it at one input. -/
def typedSignsWrong : ChangeSpec := { name := "typedSigns", fn := fun _ => fun
  | [d1, d2, d3] => { results := [.lit (.bool false)], args := [d1, d2, d3] }
  | _ => none }
def TypedSignsWrongFalsely : Prop := typedSignsRow.holds Try.pinned (OpenSpec.ofChange typedSignsWrong)

/-- 'runriglaw8.TypedKnown': WHATEVER THE INPUT: true; the input reads as it did. -/
def typedKnownSpec : ChangeSpec := { name := "typedKnown", fn := fun _ => fun
  | [d1, d2] => { results := [.lit (.bool true)], args := [d1, d2] }
  | _ => none }
def typedKnownRow : OpenClaim := { program := "ytfhfpnnmcdgdkaa", sum := "3bacf590e202943dffae788b7b9b0cab58358d88ed1469987a30b088b9526656", func := "runrig/runriglaw8.TypedKnown", spec := "typedKnown", unfollowed := true, recurses := true, apart := false }
def TypedKnownSaid : Prop := typedKnownRow.holds Try.pinned (OpenSpec.ofChange typedKnownSpec)

/-- ITS FALSE NEIGHBOUR: 'it returns false'. Refute it at one input. -/
def typedKnownWrong : ChangeSpec := { name := "typedKnown", fn := fun _ => fun
  | [d1, d2] => { results := [.lit (.bool false)], args := [d1, d2] }
  | _ => none }
def TypedKnownWrongFalsely : Prop := typedKnownRow.holds Try.pinned (OpenSpec.ofChange typedKnownWrong)

/- THE SECOND FORM. 'bulk': how many values and letters a reading holds, each counted each time it is reached (what is shared counts as often as it is met; a slice's spare places count too). A statement '..UptoSaid' is the law's where the arguments, and the package variables that the reading takes, are together of bulk at most 1048576: NARROWER than '..Said'. Prove '..Said' where nothing that the law and all that it calls make is longer than what came in: it says more and counts as full. Else prove '..UptoSaid'. A law counts once. -/
mutual
def uptoBulk {H : Type} : DataW H → Nat
  | .lit (.string bytes) => bytes.length + 1
  | .lit _ => 1
  | .nil => 1
  | .ptr d => uptoBulk d + 1
  | .slice elems spare => uptoBulkAll elems + uptoBulkAll spare + 1
  | .agg parts => uptoBulkAll parts + 1
  | .iface _ d => uptoBulk d + 1
  | .map entries => uptoBulkEntries entries + 1
  | .held _ => 1
def uptoBulkAll {H : Type} : List (DataW H) → Nat
  | [] => 0
  | d :: r => uptoBulk d + uptoBulkAll r
def uptoBulkEntries {H : Type} : List (Lit × DataW H) → Nat
  | [] => 0
  | x :: r => uptoBulkEntry x + uptoBulkEntries r
def uptoBulkEntry {H : Type} : Lit × DataW H → Nat
  | (.string bytes, d) => bytes.length + uptoBulk d + 1
  | (_, d) => uptoBulk d + 1
 end
def uptoSmall : (H : Type) → List (DataW H) → Bool := fun _ ds => decide (uptoBulkAll ds ≤ 1048576)
def OpenSpec.upto (s : _root_.Go.ChangeSpec) : _root_.Go.OpenSpec := { _root_.Go.OpenSpec.ofChange s with cond := some uptoSmall }

/-- 'runriglaw8.TypedAgain', WHERE WHAT IT READS IS OF BULK AT MOST 1048576: true; the input reads as it did. -/
def typedAgainUptoRow : OpenClaim := { program := "ytfhfpnnmcdgdkaa", sum := "3bacf590e202943dffae788b7b9b0cab58358d88ed1469987a30b088b9526656", func := "runrig/runriglaw8.TypedAgain", spec := "typedAgain", unfollowed := true, recurses := true, apart := false, narrowed := true }
def TypedAgainUptoSaid : Prop := typedAgainUptoRow.holds Try.pinned (OpenSpec.upto typedAgainSpec)

/-- 'runriglaw8.TypedSigns', WHERE WHAT IT READS IS OF BULK AT MOST 1048576: true; the input reads as it did. -/
def typedSignsUptoRow : OpenClaim := { program := "ytfhfpnnmcdgdkaa", sum := "3bacf590e202943dffae788b7b9b0cab58358d88ed1469987a30b088b9526656", func := "runrig/runriglaw8.TypedSigns", spec := "typedSigns", unfollowed := true, recurses := true, apart := false, narrowed := true }
def TypedSignsUptoSaid : Prop := typedSignsUptoRow.holds Try.pinned (OpenSpec.upto typedSignsSpec)

/-- 'runriglaw8.TypedKnown', WHERE WHAT IT READS IS OF BULK AT MOST 1048576: true; the input reads as it did. -/
def typedKnownUptoRow : OpenClaim := { program := "ytfhfpnnmcdgdkaa", sum := "3bacf590e202943dffae788b7b9b0cab58358d88ed1469987a30b088b9526656", func := "runrig/runriglaw8.TypedKnown", spec := "typedKnown", unfollowed := true, recurses := true, apart := false, narrowed := true }
def TypedKnownUptoSaid : Prop := typedKnownUptoRow.holds Try.pinned (OpenSpec.upto typedKnownSpec)

end Rows
end Go.Proofs.Ytfhfpnnmcdgdkaa
