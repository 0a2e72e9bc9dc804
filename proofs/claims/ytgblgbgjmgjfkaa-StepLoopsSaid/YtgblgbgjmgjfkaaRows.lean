/-
  No cell of these rows narrows 'for every input' (looked for: loops, veiled, ifaces, maps, wideKeys, modest, calm, conditions, laid).
  DERIVED. THE GIVEN ROWS OF THIS SEAT. 2 by the template 'for every input the law returns true; each argument reads behind the call as it read before'; 0 by the template 'total and deterministic' (their statements: YtgblgbgjmgjfkaaTotals.lean).
  GIVEN WITH THE SEED: the statements are not yours to turn. If you find one false, say at which input.
  Laid BY PROGRAM, IN A SANDBOX (cutbox-rows.mjs): the forced cells as the released guide's own fill.sh prints them over the translation cc2a8fd22272ca84… (all of the seat's roots in one cut). By AI agents, Wed Nov 11 2026. No macro, syntax, notation, axiom, sorry.
-/
import Derived.Test.YtgblgbgjmgjfkaaChecked
import GoSem.Claim
import GoSem.ClaimJoined
import GoSem.ClaimMapViews
import Derived.JoinedTies
import Derived.KernelRfl
namespace Go.Proofs.Ytgblgbgjmgjfkaa
/- THE CELL 'sum', in the pinned program and in every row, IS THE sha256 OF THE DUMP (.gsa) THAT YtgblgbgjmgjfkaaProg.lean LOADS. Nothing in Lean hashes anything: it is a label: what it is worth is what the hold of that sum in a sandbox is worth. -/
noncomputable def Try.pinned : Pinned := { name := "ytgblgbgjmgjfkaa", sum := "cc2a8fd22272ca8411663edb94862ac52812fd3f49147dbb460e16677d10e7e2", checked := Try.checked }
namespace Rows
def none {H : Type} : Left H := { results := [], args := [] }

/-- 'runriglaw14.StepMore': WHATEVER THE INPUT: true; the input reads as it did. -/
def stepMoreSpec : ChangeSpec := { name := "stepMore", fn := fun _ => fun
  | [d1, d2, d3, d4] => { results := [.lit (.bool true)], args := [d1, d2, d3, d4] }
  | _ => none }
def stepMoreRow : OpenClaim := { program := "ytgblgbgjmgjfkaa", sum := "cc2a8fd22272ca8411663edb94862ac52812fd3f49147dbb460e16677d10e7e2", func := "runrig/runriglaw14.StepMore", spec := "stepMore", unfollowed := true, recurses := true, apart := false }
def StepMoreSaid : Prop := stepMoreRow.holds Try.pinned (OpenSpec.ofChange stepMoreSpec)

/-- ITS FALSE NEIGHBOUR: 'it returns false'. Refute it at one input. -/
def stepMoreWrong : ChangeSpec := { name := "stepMore", fn := fun _ => fun
  | [d1, d2, d3, d4] => { results := [.lit (.bool false)], args := [d1, d2, d3, d4] }
  | _ => none }
def StepMoreWrongFalsely : Prop := stepMoreRow.holds Try.pinned (OpenSpec.ofChange stepMoreWrong)

/-- 'runriglaw14.StepLoops': WHATEVER THE INPUT: true; the input reads as it did. -/
def stepLoopsSpec : ChangeSpec := { name := "stepLoops", fn := fun _ => fun
  | [d1, d2, d3] => { results := [.lit (.bool true)], args := [d1, d2, d3] }
  | _ => none }
def stepLoopsRow : OpenClaim := { program := "ytgblgbgjmgjfkaa", sum := "cc2a8fd22272ca8411663edb94862ac52812fd3f49147dbb460e16677d10e7e2", func := "runrig/runriglaw14.StepLoops", spec := "stepLoops", unfollowed := true, recurses := true, apart := false }
def StepLoopsSaid : Prop := stepLoopsRow.holds Try.pinned (OpenSpec.ofChange stepLoopsSpec)

/-- ITS FALSE NEIGHBOUR: 'it returns false'. Refute it at one input. -/
def stepLoopsWrong : ChangeSpec := { name := "stepLoops", fn := fun _ => fun
  | [d1, d2, d3] => { results := [.lit (.bool false)], args := [d1, d2, d3] }
  | _ => none }
def StepLoopsWrongFalsely : Prop := stepLoopsRow.holds Try.pinned (OpenSpec.ofChange stepLoopsWrong)

/- THE SECOND FORM. 'bulk': how many values and letters a reading holds, each counted each time it is reached (what is shared counts as often as it is met; a slice's spare places count too). A statement '..UptoSaid' is the law's where the arguments, and the package variables that the reading takes, are together of bulk at most 1048576: NARROWER than '..Said'. Prove '..Said' where nothing that the law and all that it calls make is longer than what came in: it says more and counts as full. Else prove '..UptoSaid'. A law counts once. -/
mutual
def uptoBulk {H : Type} : DataW H → Nat
  | .lit (.string bytes) => bytes.length + 1
  | .lit _ => 1
  | .nil => 1
  | .ptr d => uptoBulk d + 1
  | .slice elems spare => uptoBulkAll elems + uptoBulkAll spare + 1
  | .agg parts => uptoBulkAll parts + 1
  | .iface _ d => uptoBulk d + 1
  | .map entries => uptoBulkEntries entries + 1
  | .held _ => 1
def uptoBulkAll {H : Type} : List (DataW H) → Nat
  | [] => 0
  | d :: r => uptoBulk d + uptoBulkAll r
def uptoBulkEntries {H : Type} : List (Lit × DataW H) → Nat
  | [] => 0
  | x :: r => uptoBulkEntry x + uptoBulkEntries r
def uptoBulkEntry {H : Type} : Lit × DataW H → Nat
  | (.string bytes, d) => bytes.length + uptoBulk d + 1
  | (_, d) => uptoBulk d + 1
 end
def uptoSmall : (H : Type) → List (DataW H) → Bool := fun _ ds => decide (uptoBulkAll ds ≤ 1048576)
def OpenSpec.upto (s : _root_.Go.ChangeSpec) : _root_.Go.OpenSpec := { _root_.Go.OpenSpec.ofChange s with cond := some uptoSmall }

/-- 'runriglaw14.StepMore', WHERE WHAT IT READS IS OF BULK AT MOST 1048576: true; the input reads as it did. -/
def stepMoreUptoRow : OpenClaim := { program := "ytgblgbgjmgjfkaa", sum := "cc2a8fd22272ca8411663edb94862ac52812fd3f49147dbb460e16677d10e7e2", func := "runrig/runriglaw14.StepMore", spec := "stepMore", unfollowed := true, recurses := true, apart := false, narrowed := true }
def StepMoreUptoSaid : Prop := stepMoreUptoRow.holds Try.pinned (OpenSpec.upto stepMoreSpec)

/-- 'runriglaw14.StepLoops', WHERE WHAT IT READS IS OF BULK AT MOST 1048576: true; the input reads as it did. -/
def stepLoopsUptoRow : OpenClaim := { program := "ytgblgbgjmgjfkaa", sum := "cc2a8fd22272ca8411663edb94862ac52812fd3f49147dbb460e16677d10e7e2", func := "runrig/runriglaw14.StepLoops", spec := "stepLoops", unfollowed := true, recurses := true, apart := false, narrowed := true }
def StepLoopsUptoSaid : Prop := stepLoopsUptoRow.holds Try.pinned (OpenSpec.upto stepLoopsSpec)

end Rows
end Go.Proofs.Ytgblgbgjmgjfkaa
