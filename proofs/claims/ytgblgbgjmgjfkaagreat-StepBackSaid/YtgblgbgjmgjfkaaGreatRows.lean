/-
  No cell of these rows narrows 'for every input' (looked for: loops, veiled, ifaces, maps, wideKeys, modest, calm, conditions, laid).
  DERIVED. THE GIVEN ROWS OF THIS SEAT. 3 by the template 'for every input the law returns true; each argument reads behind the call as it read before'; 0 by the template 'total and deterministic' (their statements: YtgblgbgjmgjfkaaGreatTotals.lean).
  GIVEN WITH THE SEED: the statements are not yours to turn. If you find one false, say at which input.
  Laid BY PROGRAM, IN A SANDBOX (cutbox-rows.mjs): the forced cells as the released guide's own fill.sh prints them over the translation 4422c18cb7325271… (all of the seat's roots in one cut). By AI agents, Wed Nov 11 2026. No macro, syntax, notation, axiom, sorry.
-/
import Derived.Test.YtgblgbgjmgjfkaaGreatChecked
import GoSem.Claim
import GoSem.ClaimJoined
import GoSem.ClaimMapViews
import Derived.JoinedTies
import Derived.KernelRfl
namespace Go.Proofs.YtgblgbgjmgjfkaaGreat
/- THE CELL 'sum', in the pinned program and in every row, IS THE sha256 OF THE DUMP (.gsa) THAT YtgblgbgjmgjfkaaGreatProg.lean LOADS. Nothing in Lean hashes anything: it is a label: what it is worth is what the hold of that sum in a sandbox is worth. -/
noncomputable def Tryz.pinned : Pinned := { name := "ytgblgbgjmgjfkaagreat", sum := "4422c18cb7325271939f23711f917d6d01c086e0dfb4eaec5b3eaf6e9238d36d", checked := Tryz.checked }
namespace Rows
def none {H : Type} : Left H := { results := [], args := [] }

/-- 'runriglaw14.StepRuns': WHATEVER THE INPUT: true; the input reads as it did. -/
def stepRunsSpec : ChangeSpec := { name := "stepRuns", fn := fun _ => fun
  | [d1, d2, d3] => { results := [.lit (.bool true)], args := [d1, d2, d3] }
  | _ => none }
def stepRunsRow : OpenClaim := { program := "ytgblgbgjmgjfkaagreat", sum := "4422c18cb7325271939f23711f917d6d01c086e0dfb4eaec5b3eaf6e9238d36d", func := "runrig/runriglaw14.StepRuns", spec := "stepRuns", unfollowed := true, recurses := true, apart := false }
def StepRunsSaid : Prop := stepRunsRow.holds Tryz.pinned (OpenSpec.ofChange stepRunsSpec)

/-- ITS FALSE NEIGHBOUR: 'it returns false'. Refute it at one input. -/
def stepRunsWrong : ChangeSpec := { name := "stepRuns", fn := fun _ => fun
  | [d1, d2, d3] => { results := [.lit (.bool false)], args := [d1, d2, d3] }
  | _ => none }
def StepRunsWrongFalsely : Prop := stepRunsRow.holds Tryz.pinned (OpenSpec.ofChange stepRunsWrong)

/-- 'runriglaw14.StepMeans': WHATEVER THE INPUT: true; the input reads as it did. -/
def stepMeansSpec : ChangeSpec := { name := "stepMeans", fn := fun _ => fun
  | [d1, d2, d3] => { results := [.lit (.bool true)], args := [d1, d2, d3] }
  | _ => none }
def stepMeansRow : OpenClaim := { program := "ytgblgbgjmgjfkaagreat", sum := "4422c18cb7325271939f23711f917d6d01c086e0dfb4eaec5b3eaf6e9238d36d", func := "runrig/runriglaw14.StepMeans", spec := "stepMeans", unfollowed := true, recurses := true, apart := false }
def StepMeansSaid : Prop := stepMeansRow.holds Tryz.pinned (OpenSpec.ofChange stepMeansSpec)

/-- ITS FALSE NEIGHBOUR: 'it returns false'. Refute it at one input. -/
def stepMeansWrong : ChangeSpec := { name := "stepMeans", fn := fun _ => fun
  | [d1, d2, d3] => { results := [.lit (.bool false)], args := [d1, d2, d3] }
  | _ => none }
def StepMeansWrongFalsely : Prop := stepMeansRow.holds Tryz.pinned (OpenSpec.ofChange stepMeansWrong)

/-- 'runriglaw14.StepBack': WHATEVER THE INPUT: true; the input reads as it did. -/
def stepBackSpec : ChangeSpec := { name := "stepBack", fn := fun _ => fun
  | [d1, d2, d3] => { results := [.lit (.bool true)], args := [d1, d2, d3] }
  | _ => none }
def stepBackRow : OpenClaim := { program := "ytgblgbgjmgjfkaagreat", sum := "4422c18cb7325271939f23711f917d6d01c086e0dfb4eaec5b3eaf6e9238d36d", func := "runrig/runriglaw14.StepBack", spec := "stepBack", unfollowed := true, recurses := true, apart := false }
def StepBackSaid : Prop := stepBackRow.holds Tryz.pinned (OpenSpec.ofChange stepBackSpec)

/-- ITS FALSE NEIGHBOUR: 'it returns false'. Refute it at one input. -/
def stepBackWrong : ChangeSpec := { name := "stepBack", fn := fun _ => fun
  | [d1, d2, d3] => { results := [.lit (.bool false)], args := [d1, d2, d3] }
  | _ => none }
def StepBackWrongFalsely : Prop := stepBackRow.holds Tryz.pinned (OpenSpec.ofChange stepBackWrong)

/- THE SECOND FORM. 'bulk': how many values and letters a reading holds, each counted each time it is reached (what is shared counts as often as it is met; a slice's spare places count too). A statement '..UptoSaid' is the law's where the arguments, and the package variables that the reading takes, are together of bulk at most 1048576: NARROWER than '..Said'. Prove '..Said' where nothing that the law and all that it calls make is longer than what came in: it says more and counts as full. Else prove '..UptoSaid'. A law counts once. -/
mutual
def uptoBulk {H : Type} : DataW H → Nat
  | .lit (.string bytes) => bytes.length + 1
  | .lit _ => 1
  | .nil => 1
  | .ptr d => uptoBulk d + 1
  | .slice elems spare => uptoBulkAll elems + uptoBulkAll spare + 1
  | .agg parts => uptoBulkAll parts + 1
  | .iface _ d => uptoBulk d + 1
  | .map entries => uptoBulkEntries entries + 1
  | .held _ => 1
def uptoBulkAll {H : Type} : List (DataW H) → Nat
  | [] => 0
  | d :: r => uptoBulk d + uptoBulkAll r
def uptoBulkEntries {H : Type} : List (Lit × DataW H) → Nat
  | [] => 0
  | x :: r => uptoBulkEntry x + uptoBulkEntries r
def uptoBulkEntry {H : Type} : Lit × DataW H → Nat
  | (.string bytes, d) => bytes.length + uptoBulk d + 1
  | (_, d) => uptoBulk d + 1
 end
def uptoSmall : (H : Type) → List (DataW H) → Bool := fun _ ds => decide (uptoBulkAll ds ≤ 1048576)
def OpenSpec.upto (s : _root_.Go.ChangeSpec) : _root_.Go.OpenSpec := { _root_.Go.OpenSpec.ofChange s with cond := some uptoSmall }

/-- 'runriglaw14.StepRuns', WHERE WHAT IT READS IS OF BULK AT MOST 1048576: true; the input reads as it did. -/
def stepRunsUptoRow : OpenClaim := { program := "ytgblgbgjmgjfkaagreat", sum := "4422c18cb7325271939f23711f917d6d01c086e0dfb4eaec5b3eaf6e9238d36d", func := "runrig/runriglaw14.StepRuns", spec := "stepRuns", unfollowed := true, recurses := true, apart := false, narrowed := true }
def StepRunsUptoSaid : Prop := stepRunsUptoRow.holds Tryz.pinned (OpenSpec.upto stepRunsSpec)

/-- 'runriglaw14.StepMeans', WHERE WHAT IT READS IS OF BULK AT MOST 1048576: true; the input reads as it did. -/
def stepMeansUptoRow : OpenClaim := { program := "ytgblgbgjmgjfkaagreat", sum := "4422c18cb7325271939f23711f917d6d01c086e0dfb4eaec5b3eaf6e9238d36d", func := "runrig/runriglaw14.StepMeans", spec := "stepMeans", unfollowed := true, recurses := true, apart := false, narrowed := true }
def StepMeansUptoSaid : Prop := stepMeansUptoRow.holds Tryz.pinned (OpenSpec.upto stepMeansSpec)

/-- 'runriglaw14.StepBack', WHERE WHAT IT READS IS OF BULK AT MOST 1048576: true; the input reads as it did. -/
def stepBackUptoRow : OpenClaim := { program := "ytgblgbgjmgjfkaagreat", sum := "4422c18cb7325271939f23711f917d6d01c086e0dfb4eaec5b3eaf6e9238d36d", func := "runrig/runriglaw14.StepBack", spec := "stepBack", unfollowed := true, recurses := true, apart := false, narrowed := true }
def StepBackUptoSaid : Prop := stepBackUptoRow.holds Tryz.pinned (OpenSpec.upto stepBackSpec)

end Rows
end Go.Proofs.YtgblgbgjmgjfkaaGreat
