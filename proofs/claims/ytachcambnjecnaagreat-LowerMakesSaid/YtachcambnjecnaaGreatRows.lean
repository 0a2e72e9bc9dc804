/-
  No cell of these rows narrows 'for every input' (looked for: loops, veiled, ifaces, maps, wideKeys, modest, calm, conditions, laid).
  DERIVED. THE GIVEN ROWS OF THIS SEAT. 2 by the template 'for every input the law returns true; each argument reads behind the call as it read before'; 0 by the template 'total and deterministic' (their statements: YtachcambnjecnaaGreatTotals.lean).
  GIVEN WITH THE SEED: the statements are not yours to turn. If you find one false, say at which input.
  Laid BY PROGRAM, IN A SANDBOX (cutbox-rows.mjs): the forced cells as the released guide's own fill.sh prints them over the translation 4e519fbeae508dfb… (all of the seat's roots in one cut). By AI agents, Wed Nov 11 2026. No macro, syntax, notation, axiom, sorry.
-/
import Derived.Test.YtachcambnjecnaaGreatChecked
import GoSem.Claim
import GoSem.ClaimJoined
import GoSem.ClaimMapViews
import Derived.JoinedTies
import Derived.KernelRfl
namespace Go.Proofs.YtachcambnjecnaaGreat
/- THE CELL 'sum', in the pinned program and in every row, IS THE sha256 OF THE DUMP (.gsa) THAT YtachcambnjecnaaGreatProg.lean LOADS. Nothing in Lean hashes anything: it is a label: what it is worth is what the hold of that sum in a sandbox is worth. -/
noncomputable def Tryz.pinned : Pinned := { name := "ytachcambnjecnaagreat", sum := "4e519fbeae508dfbc4fabb7e02111ad79b325b7afda5218e3f4c86082110a6d8", checked := Tryz.checked }
namespace Rows
def none {H : Type} : Left H := { results := [], args := [] }

/-- 'runriglaw13.LowerMakes': WHATEVER THE INPUT: true; the input reads as it did. -/
def lowerMakesSpec : ChangeSpec := { name := "lowerMakes", fn := fun _ => fun
  | [d] => { results := [.lit (.bool true)], args := [d] }
  | _ => none }
def lowerMakesRow : OpenClaim := { program := "ytachcambnjecnaagreat", sum := "4e519fbeae508dfbc4fabb7e02111ad79b325b7afda5218e3f4c86082110a6d8", func := "runrig/runriglaw13.LowerMakes", spec := "lowerMakes", unfollowed := true, recurses := true, apart := false }
def LowerMakesSaid : Prop := lowerMakesRow.holds Tryz.pinned (OpenSpec.ofChange lowerMakesSpec)

/-- ITS FALSE NEIGHBOUR: 'it returns false'. Refute it at one input. -/
def lowerMakesWrong : ChangeSpec := { name := "lowerMakes", fn := fun _ => fun
  | [d] => { results := [.lit (.bool false)], args := [d] }
  | _ => none }
def LowerMakesWrongFalsely : Prop := lowerMakesRow.holds Tryz.pinned (OpenSpec.ofChange lowerMakesWrong)

/-- 'runriglaw13.LowerRight': WHATEVER THE INPUT: true; the input reads as it did. -/
def lowerRightSpec : ChangeSpec := { name := "lowerRight", fn := fun _ => fun
  | [d] => { results := [.lit (.bool true)], args := [d] }
  | _ => none }
def lowerRightRow : OpenClaim := { program := "ytachcambnjecnaagreat", sum := "4e519fbeae508dfbc4fabb7e02111ad79b325b7afda5218e3f4c86082110a6d8", func := "runrig/runriglaw13.LowerRight", spec := "lowerRight", unfollowed := true, recurses := true, apart := false }
def LowerRightSaid : Prop := lowerRightRow.holds Tryz.pinned (OpenSpec.ofChange lowerRightSpec)

/-- ITS FALSE NEIGHBOUR: 'it returns false'. Refute it at one input. -/
def lowerRightWrong : ChangeSpec := { name := "lowerRight", fn := fun _ => fun
  | [d] => { results := [.lit (.bool false)], args := [d] }
  | _ => none }
def LowerRightWrongFalsely : Prop := lowerRightRow.holds Tryz.pinned (OpenSpec.ofChange lowerRightWrong)

/- THE SECOND FORM. 'bulk': how many values and letters a reading holds, each counted each time it is reached (what is shared counts as often as it is met; a slice's spare places count too). A statement '..UptoSaid' is the law's where the arguments, and the package variables that the reading takes, are together of bulk at most 1048576: NARROWER than '..Said'. Prove '..Said' where nothing that the law and all that it calls make is longer than what came in: it says more and counts as full. Else prove '..UptoSaid'. A law counts once. -/
mutual
def uptoBulk {H : Type} : DataW H → Nat
  | .lit (.string bytes) => bytes.length + 1
  | .lit _ => 1
  | .nil => 1
  | .ptr d => uptoBulk d + 1
  | .slice elems spare => uptoBulkAll elems + uptoBulkAll spare + 1
  | .agg parts => uptoBulkAll parts + 1
  | .iface _ d => uptoBulk d + 1
  | .map entries => uptoBulkEntries entries + 1
  | .held _ => 1
def uptoBulkAll {H : Type} : List (DataW H) → Nat
  | [] => 0
  | d :: r => uptoBulk d + uptoBulkAll r
def uptoBulkEntries {H : Type} : List (Lit × DataW H) → Nat
  | [] => 0
  | x :: r => uptoBulkEntry x + uptoBulkEntries r
def uptoBulkEntry {H : Type} : Lit × DataW H → Nat
  | (.string bytes, d) => bytes.length + uptoBulk d + 1
  | (_, d) => uptoBulk d + 1
 end
def uptoSmall : (H : Type) → List (DataW H) → Bool := fun _ ds => decide (uptoBulkAll ds ≤ 1048576)
def OpenSpec.upto (s : _root_.Go.ChangeSpec) : _root_.Go.OpenSpec := { _root_.Go.OpenSpec.ofChange s with cond := some uptoSmall }

/-- 'runriglaw13.LowerMakes', WHERE WHAT IT READS IS OF BULK AT MOST 1048576: true; the input reads as it did. -/
def lowerMakesUptoRow : OpenClaim := { program := "ytachcambnjecnaagreat", sum := "4e519fbeae508dfbc4fabb7e02111ad79b325b7afda5218e3f4c86082110a6d8", func := "runrig/runriglaw13.LowerMakes", spec := "lowerMakes", unfollowed := true, recurses := true, apart := false, narrowed := true }
def LowerMakesUptoSaid : Prop := lowerMakesUptoRow.holds Tryz.pinned (OpenSpec.upto lowerMakesSpec)

/-- 'runriglaw13.LowerRight', WHERE WHAT IT READS IS OF BULK AT MOST 1048576: true; the input reads as it did. -/
def lowerRightUptoRow : OpenClaim := { program := "ytachcambnjecnaagreat", sum := "4e519fbeae508dfbc4fabb7e02111ad79b325b7afda5218e3f4c86082110a6d8", func := "runrig/runriglaw13.LowerRight", spec := "lowerRight", unfollowed := true, recurses := true, apart := false, narrowed := true }
def LowerRightUptoSaid : Prop := lowerRightUptoRow.holds Tryz.pinned (OpenSpec.upto lowerRightSpec)

end Rows
end Go.Proofs.YtachcambnjecnaaGreat
