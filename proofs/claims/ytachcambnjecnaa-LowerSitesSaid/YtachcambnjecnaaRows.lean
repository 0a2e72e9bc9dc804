/-
  No cell of these rows narrows 'for every input' (looked for: loops, veiled, ifaces, maps, wideKeys, modest, calm, conditions, laid).
  DERIVED. THE GIVEN ROWS OF THIS SEAT. 4 by the template 'for every input the law returns true; each argument reads behind the call as it read before'; 0 by the template 'total and deterministic' (their statements: YtachcambnjecnaaTotals.lean).
  GIVEN WITH THE SEED: the statements are not yours to turn. If you find one false, say at which input.
  Laid BY PROGRAM, IN A SANDBOX (cutbox-rows.mjs): the forced cells as the released guide's own fill.sh prints them over the translation e4ffb004fda1ba9e… (all of the seat's roots in one cut). By AI agents, Wed Nov 11 2026. No macro, syntax, notation, axiom, sorry.
-/
import Derived.Test.YtachcambnjecnaaChecked
import GoSem.Claim
import GoSem.ClaimJoined
import GoSem.ClaimMapViews
import Derived.JoinedTies
import Derived.KernelRfl
namespace Go.Proofs.Ytachcambnjecnaa
/- THE CELL 'sum', in the pinned program and in every row, IS THE sha256 OF THE DUMP (.gsa) THAT YtachcambnjecnaaProg.lean LOADS. Nothing in Lean hashes anything: it is a label: what it is worth is what the hold of that sum in a sandbox is worth. -/
noncomputable def Try.pinned : Pinned := { name := "ytachcambnjecnaa", sum := "e4ffb004fda1ba9ec60df52cb3c3b39c4f77bcad496a9d0a2d02bfd0def41e6f", checked := Try.checked }
namespace Rows
def none {H : Type} : Left H := { results := [], args := [] }

/-- 'runriglaw13.LowerMany': WHATEVER THE INPUT: true; the input reads as it did. -/
def lowerManySpec : ChangeSpec := { name := "lowerMany", fn := fun _ => fun
  | [d1, d2] => { results := [.lit (.bool true)], args := [d1, d2] }
  | _ => none }
def lowerManyRow : OpenClaim := { program := "ytachcambnjecnaa", sum := "e4ffb004fda1ba9ec60df52cb3c3b39c4f77bcad496a9d0a2d02bfd0def41e6f", func := "runrig/runriglaw13.LowerMany", spec := "lowerMany", unfollowed := true, recurses := true, apart := false }
def LowerManySaid : Prop := lowerManyRow.holds Try.pinned (OpenSpec.ofChange lowerManySpec)

/-- ITS FALSE NEIGHBOUR: 'it returns false'. Refute it at one input. -/
def lowerManyWrong : ChangeSpec := { name := "lowerMany", fn := fun _ => fun
  | [d1, d2] => { results := [.lit (.bool false)], args := [d1, d2] }
  | _ => none }
def LowerManyWrongFalsely : Prop := lowerManyRow.holds Try.pinned (OpenSpec.ofChange lowerManyWrong)

/-- 'runriglaw13.LowerSites': WHATEVER THE INPUT: true; the input reads as it did. -/
def lowerSitesSpec : ChangeSpec := { name := "lowerSites", fn := fun _ => fun
  | [d1, d2] => { results := [.lit (.bool true)], args := [d1, d2] }
  | _ => none }
def lowerSitesRow : OpenClaim := { program := "ytachcambnjecnaa", sum := "e4ffb004fda1ba9ec60df52cb3c3b39c4f77bcad496a9d0a2d02bfd0def41e6f", func := "runrig/runriglaw13.LowerSites", spec := "lowerSites", unfollowed := true, recurses := true, apart := false }
def LowerSitesSaid : Prop := lowerSitesRow.holds Try.pinned (OpenSpec.ofChange lowerSitesSpec)

/-- ITS FALSE NEIGHBOUR: 'it returns false'. Refute it at one input. -/
def lowerSitesWrong : ChangeSpec := { name := "lowerSites", fn := fun _ => fun
  | [d1, d2] => { results := [.lit (.bool false)], args := [d1, d2] }
  | _ => none }
def LowerSitesWrongFalsely : Prop := lowerSitesRow.holds Try.pinned (OpenSpec.ofChange lowerSitesWrong)

/-- 'runriglaw13.LowerLong': WHATEVER THE INPUT: true; the input reads as it did. -/
def lowerLongSpec : ChangeSpec := { name := "lowerLong", fn := fun _ => fun
  | [d] => { results := [.lit (.bool true)], args := [d] }
  | _ => none }
def lowerLongRow : OpenClaim := { program := "ytachcambnjecnaa", sum := "e4ffb004fda1ba9ec60df52cb3c3b39c4f77bcad496a9d0a2d02bfd0def41e6f", func := "runrig/runriglaw13.LowerLong", spec := "lowerLong", unfollowed := true, recurses := true, apart := false }
def LowerLongSaid : Prop := lowerLongRow.holds Try.pinned (OpenSpec.ofChange lowerLongSpec)

/-- ITS FALSE NEIGHBOUR: 'it returns false'. Refute it at one input. -/
def lowerLongWrong : ChangeSpec := { name := "lowerLong", fn := fun _ => fun
  | [d] => { results := [.lit (.bool false)], args := [d] }
  | _ => none }
def LowerLongWrongFalsely : Prop := lowerLongRow.holds Try.pinned (OpenSpec.ofChange lowerLongWrong)

/-- 'runriglaw13.LowerVars': WHATEVER THE INPUT: true; the input reads as it did. -/
def lowerVarsSpec : ChangeSpec := { name := "lowerVars", fn := fun _ => fun
  | [d] => { results := [.lit (.bool true)], args := [d] }
  | _ => none }
def lowerVarsRow : OpenClaim := { program := "ytachcambnjecnaa", sum := "e4ffb004fda1ba9ec60df52cb3c3b39c4f77bcad496a9d0a2d02bfd0def41e6f", func := "runrig/runriglaw13.LowerVars", spec := "lowerVars", unfollowed := true, recurses := true, apart := false }
def LowerVarsSaid : Prop := lowerVarsRow.holds Try.pinned (OpenSpec.ofChange lowerVarsSpec)

/-- ITS FALSE NEIGHBOUR: 'it returns false'. Refute it at one input. -/
def lowerVarsWrong : ChangeSpec := { name := "lowerVars", fn := fun _ => fun
  | [d] => { results := [.lit (.bool false)], args := [d] }
  | _ => none }
def LowerVarsWrongFalsely : Prop := lowerVarsRow.holds Try.pinned (OpenSpec.ofChange lowerVarsWrong)

/- THE SECOND FORM. 'bulk': how many values and letters a reading holds, each counted each time it is reached (what is shared counts as often as it is met; a slice's spare places count too). A statement '..UptoSaid' is the law's where the arguments, and the package variables that the reading takes, are together of bulk at most 1048576: NARROWER than '..Said'. Prove '..Said' where nothing that the law and all that it calls make is longer than what came in: it says more and counts as full. Else prove '..UptoSaid'. A law counts once. -/
mutual
def uptoBulk {H : Type} : DataW H → Nat
  | .lit (.string bytes) => bytes.length + 1
  | .lit _ => 1
  | .nil => 1
  | .ptr d => uptoBulk d + 1
  | .slice elems spare => uptoBulkAll elems + uptoBulkAll spare + 1
  | .agg parts => uptoBulkAll parts + 1
  | .iface _ d => uptoBulk d + 1
  | .map entries => uptoBulkEntries entries + 1
  | .held _ => 1
def uptoBulkAll {H : Type} : List (DataW H) → Nat
  | [] => 0
  | d :: r => uptoBulk d + uptoBulkAll r
def uptoBulkEntries {H : Type} : List (Lit × DataW H) → Nat
  | [] => 0
  | x :: r => uptoBulkEntry x + uptoBulkEntries r
def uptoBulkEntry {H : Type} : Lit × DataW H → Nat
  | (.string bytes, d) => bytes.length + uptoBulk d + 1
  | (_, d) => uptoBulk d + 1
 end
def uptoSmall : (H : Type) → List (DataW H) → Bool := fun _ ds => decide (uptoBulkAll ds ≤ 1048576)
def OpenSpec.upto (s : _root_.Go.ChangeSpec) : _root_.Go.OpenSpec := { _root_.Go.OpenSpec.ofChange s with cond := some uptoSmall }

/-- 'runriglaw13.LowerMany', WHERE WHAT IT READS IS OF BULK AT MOST 1048576: true; the input reads as it did. -/
def lowerManyUptoRow : OpenClaim := { program := "ytachcambnjecnaa", sum := "e4ffb004fda1ba9ec60df52cb3c3b39c4f77bcad496a9d0a2d02bfd0def41e6f", func := "runrig/runriglaw13.LowerMany", spec := "lowerMany", unfollowed := true, recurses := true, apart := false, narrowed := true }
def LowerManyUptoSaid : Prop := lowerManyUptoRow.holds Try.pinned (OpenSpec.upto lowerManySpec)

/-- 'runriglaw13.LowerSites', WHERE WHAT IT READS IS OF BULK AT MOST 1048576: true; the input reads as it did. -/
def lowerSitesUptoRow : OpenClaim := { program := "ytachcambnjecnaa", sum := "e4ffb004fda1ba9ec60df52cb3c3b39c4f77bcad496a9d0a2d02bfd0def41e6f", func := "runrig/runriglaw13.LowerSites", spec := "lowerSites", unfollowed := true, recurses := true, apart := false, narrowed := true }
def LowerSitesUptoSaid : Prop := lowerSitesUptoRow.holds Try.pinned (OpenSpec.upto lowerSitesSpec)

/-- 'runriglaw13.LowerLong', WHERE WHAT IT READS IS OF BULK AT MOST 1048576: true; the input reads as it did. -/
def lowerLongUptoRow : OpenClaim := { program := "ytachcambnjecnaa", sum := "e4ffb004fda1ba9ec60df52cb3c3b39c4f77bcad496a9d0a2d02bfd0def41e6f", func := "runrig/runriglaw13.LowerLong", spec := "lowerLong", unfollowed := true, recurses := true, apart := false, narrowed := true }
def LowerLongUptoSaid : Prop := lowerLongUptoRow.holds Try.pinned (OpenSpec.upto lowerLongSpec)

/-- 'runriglaw13.LowerVars', WHERE WHAT IT READS IS OF BULK AT MOST 1048576: true; the input reads as it did. -/
def lowerVarsUptoRow : OpenClaim := { program := "ytachcambnjecnaa", sum := "e4ffb004fda1ba9ec60df52cb3c3b39c4f77bcad496a9d0a2d02bfd0def41e6f", func := "runrig/runriglaw13.LowerVars", spec := "lowerVars", unfollowed := true, recurses := true, apart := false, narrowed := true }
def LowerVarsUptoSaid : Prop := lowerVarsUptoRow.holds Try.pinned (OpenSpec.upto lowerVarsSpec)

end Rows
end Go.Proofs.Ytachcambnjecnaa
