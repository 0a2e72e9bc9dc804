/-
  No cell of these rows narrows 'for every input' (looked for: loops, veiled, ifaces, maps, wideKeys, modest, calm, conditions, laid).
  DERIVED. THE GIVEN ROWS OF THIS SEAT. 5 by the template 'for every input the law returns true; each argument reads behind the call as it read before'; 0 by the template 'total and deterministic' (their statements: YteicnmliccdgeaaTotals.lean).
  GIVEN WITH THE SEED: the statements are not yours to turn. If you find one false, say at which input.
  Laid BY PROGRAM, IN A SANDBOX (cutbox-rows.mjs): the forced cells as the released guide's own fill.sh prints them over the translation bef710e1338a768c… (all of the seat's roots in one cut). By AI agents, Wed Nov 11 2026. No macro, syntax, notation, axiom, sorry.
-/
import Derived.Test.YteicnmliccdgeaaChecked
import GoSem.Claim
import GoSem.ClaimJoined
import GoSem.ClaimMapViews
import Derived.JoinedTies
import Derived.KernelRfl
namespace Go.Proofs.Yteicnmliccdgeaa
/- THE CELL 'sum', in the pinned program and in every row, IS THE sha256 OF THE DUMP (.gsa) THAT YteicnmliccdgeaaProg.lean LOADS. Nothing in Lean hashes anything: it is a label: what it is worth is what the hold of that sum in a sandbox is worth. -/
noncomputable def Try.pinned : Pinned := { name := "yteicnmliccdgeaa", sum := "bef710e1338a768c3f7b138839fdd25c0b70b84fe5fbad2215c488283547aece", checked := Try.checked }
namespace Rows
def none {H : Type} : Left H := { results := [], args := [] }

/-- 'runriglaw22.ReachFrom': WHATEVER THE INPUT: true; the input reads as it did. -/
def reachFromSpec : ChangeSpec := { name := "reachFrom", fn := fun _ => fun
  | [d1, d2] => { results := [.lit (.bool true)], args := [d1, d2] }
  | _ => none }
def reachFromRow : OpenClaim := { program := "yteicnmliccdgeaa", sum := "bef710e1338a768c3f7b138839fdd25c0b70b84fe5fbad2215c488283547aece", func := "runrig/runriglaw22.ReachFrom", spec := "reachFrom", unfollowed := true, recurses := true, apart := false }
def ReachFromSaid : Prop := reachFromRow.holds Try.pinned (OpenSpec.ofChange reachFromSpec)

/-- ITS FALSE NEIGHBOUR: 'it returns false'. Refute it at one input. -/
def reachFromWrong : ChangeSpec := { name := "reachFrom", fn := fun _ => fun
  | [d1, d2] => { results := [.lit (.bool false)], args := [d1, d2] }
  | _ => none }
def ReachFromWrongFalsely : Prop := reachFromRow.holds Try.pinned (OpenSpec.ofChange reachFromWrong)

/-- 'runriglaw22.ReachInto': WHATEVER THE INPUT: true; the input reads as it did. -/
def reachIntoSpec : ChangeSpec := { name := "reachInto", fn := fun _ => fun
  | [d1, d2] => { results := [.lit (.bool true)], args := [d1, d2] }
  | _ => none }
def reachIntoRow : OpenClaim := { program := "yteicnmliccdgeaa", sum := "bef710e1338a768c3f7b138839fdd25c0b70b84fe5fbad2215c488283547aece", func := "runrig/runriglaw22.ReachInto", spec := "reachInto", unfollowed := true, recurses := true, apart := false }
def ReachIntoSaid : Prop := reachIntoRow.holds Try.pinned (OpenSpec.ofChange reachIntoSpec)

/-- ITS FALSE NEIGHBOUR: 'it returns false'. Refute it at one input. -/
def reachIntoWrong : ChangeSpec := { name := "reachInto", fn := fun _ => fun
  | [d1, d2] => { results := [.lit (.bool false)], args := [d1, d2] }
  | _ => none }
def ReachIntoWrongFalsely : Prop := reachIntoRow.holds Try.pinned (OpenSpec.ofChange reachIntoWrong)

/-- 'runriglaw22.ReachTwice': WHATEVER THE INPUT: true; the input reads as it did. -/
def reachTwiceSpec : ChangeSpec := { name := "reachTwice", fn := fun _ => fun
  | [d1, d2, d3] => { results := [.lit (.bool true)], args := [d1, d2, d3] }
  | _ => none }
def reachTwiceRow : OpenClaim := { program := "yteicnmliccdgeaa", sum := "bef710e1338a768c3f7b138839fdd25c0b70b84fe5fbad2215c488283547aece", func := "runrig/runriglaw22.ReachTwice", spec := "reachTwice", unfollowed := true, recurses := true, apart := false }
def ReachTwiceSaid : Prop := reachTwiceRow.holds Try.pinned (OpenSpec.ofChange reachTwiceSpec)

/-- ITS FALSE NEIGHBOUR: 'it returns false'. Refute it at one input. -/
def reachTwiceWrong : ChangeSpec := { name := "reachTwice", fn := fun _ => fun
  | [d1, d2, d3] => { results := [.lit (.bool false)], args := [d1, d2, d3] }
  | _ => none }
def ReachTwiceWrongFalsely : Prop := reachTwiceRow.holds Try.pinned (OpenSpec.ofChange reachTwiceWrong)

/-- 'runriglaw22.ReachChain': WHATEVER THE INPUT: true; the input reads as it did. -/
def reachChainSpec : ChangeSpec := { name := "reachChain", fn := fun _ => fun
  | [d1, d2, d3] => { results := [.lit (.bool true)], args := [d1, d2, d3] }
  | _ => none }
def reachChainRow : OpenClaim := { program := "yteicnmliccdgeaa", sum := "bef710e1338a768c3f7b138839fdd25c0b70b84fe5fbad2215c488283547aece", func := "runrig/runriglaw22.ReachChain", spec := "reachChain", unfollowed := true, recurses := true, apart := false }
def ReachChainSaid : Prop := reachChainRow.holds Try.pinned (OpenSpec.ofChange reachChainSpec)

/-- ITS FALSE NEIGHBOUR: 'it returns false'. Refute it at one input. -/
def reachChainWrong : ChangeSpec := { name := "reachChain", fn := fun _ => fun
  | [d1, d2, d3] => { results := [.lit (.bool false)], args := [d1, d2, d3] }
  | _ => none }
def ReachChainWrongFalsely : Prop := reachChainRow.holds Try.pinned (OpenSpec.ofChange reachChainWrong)

/-- 'runriglaw22.ReachMore': WHATEVER THE INPUT: true; the input reads as it did. -/
def reachMoreSpec : ChangeSpec := { name := "reachMore", fn := fun _ => fun
  | [d1, d2, d3, d4] => { results := [.lit (.bool true)], args := [d1, d2, d3, d4] }
  | _ => none }
def reachMoreRow : OpenClaim := { program := "yteicnmliccdgeaa", sum := "bef710e1338a768c3f7b138839fdd25c0b70b84fe5fbad2215c488283547aece", func := "runrig/runriglaw22.ReachMore", spec := "reachMore", unfollowed := true, recurses := true, apart := false }
def ReachMoreSaid : Prop := reachMoreRow.holds Try.pinned (OpenSpec.ofChange reachMoreSpec)

/-- ITS FALSE NEIGHBOUR: 'it returns false'. Refute it at one input. -/
def reachMoreWrong : ChangeSpec := { name := "reachMore", fn := fun _ => fun
  | [d1, d2, d3, d4] => { results := [.lit (.bool false)], args := [d1, d2, d3, d4] }
  | _ => none }
def ReachMoreWrongFalsely : Prop := reachMoreRow.holds Try.pinned (OpenSpec.ofChange reachMoreWrong)

/- THE SECOND FORM. 'bulk': how many values and letters a reading holds, each counted each time it is reached (what is shared counts as often as it is met; a slice's spare places count too). A statement '..UptoSaid' is the law's where the arguments, and the package variables that the reading takes, are together of bulk at most 1048576: NARROWER than '..Said'. Prove '..Said' where nothing that the law and all that it calls make is longer than what came in: it says more and counts as full. Else prove '..UptoSaid'. A law counts once. -/
mutual
def uptoBulk {H : Type} : DataW H → Nat
  | .lit (.string bytes) => bytes.length + 1
  | .lit _ => 1
  | .nil => 1
  | .ptr d => uptoBulk d + 1
  | .slice elems spare => uptoBulkAll elems + uptoBulkAll spare + 1
  | .agg parts => uptoBulkAll parts + 1
  | .iface _ d => uptoBulk d + 1
  | .map entries => uptoBulkEntries entries + 1
  | .held _ => 1
def uptoBulkAll {H : Type} : List (DataW H) → Nat
  | [] => 0
  | d :: r => uptoBulk d + uptoBulkAll r
def uptoBulkEntries {H : Type} : List (Lit × DataW H) → Nat
  | [] => 0
  | x :: r => uptoBulkEntry x + uptoBulkEntries r
def uptoBulkEntry {H : Type} : Lit × DataW H → Nat
  | (.string bytes, d) => bytes.length + uptoBulk d + 1
  | (_, d) => uptoBulk d + 1
 end
def uptoSmall : (H : Type) → List (DataW H) → Bool := fun _ ds => decide (uptoBulkAll ds ≤ 1048576)
def OpenSpec.upto (s : _root_.Go.ChangeSpec) : _root_.Go.OpenSpec := { _root_.Go.OpenSpec.ofChange s with cond := some uptoSmall }

/-- 'runriglaw22.ReachFrom', WHERE WHAT IT READS IS OF BULK AT MOST 1048576: true; the input reads as it did. -/
def reachFromUptoRow : OpenClaim := { program := "yteicnmliccdgeaa", sum := "bef710e1338a768c3f7b138839fdd25c0b70b84fe5fbad2215c488283547aece", func := "runrig/runriglaw22.ReachFrom", spec := "reachFrom", unfollowed := true, recurses := true, apart := false, narrowed := true }
def ReachFromUptoSaid : Prop := reachFromUptoRow.holds Try.pinned (OpenSpec.upto reachFromSpec)

/-- 'runriglaw22.ReachInto', WHERE WHAT IT READS IS OF BULK AT MOST 1048576: true; the input reads as it did. -/
def reachIntoUptoRow : OpenClaim := { program := "yteicnmliccdgeaa", sum := "bef710e1338a768c3f7b138839fdd25c0b70b84fe5fbad2215c488283547aece", func := "runrig/runriglaw22.ReachInto", spec := "reachInto", unfollowed := true, recurses := true, apart := false, narrowed := true }
def ReachIntoUptoSaid : Prop := reachIntoUptoRow.holds Try.pinned (OpenSpec.upto reachIntoSpec)

/-- 'runriglaw22.ReachTwice', WHERE WHAT IT READS IS OF BULK AT MOST 1048576: true; the input reads as it did. -/
def reachTwiceUptoRow : OpenClaim := { program := "yteicnmliccdgeaa", sum := "bef710e1338a768c3f7b138839fdd25c0b70b84fe5fbad2215c488283547aece", func := "runrig/runriglaw22.ReachTwice", spec := "reachTwice", unfollowed := true, recurses := true, apart := false, narrowed := true }
def ReachTwiceUptoSaid : Prop := reachTwiceUptoRow.holds Try.pinned (OpenSpec.upto reachTwiceSpec)

/-- 'runriglaw22.ReachChain', WHERE WHAT IT READS IS OF BULK AT MOST 1048576: true; the input reads as it did. -/
def reachChainUptoRow : OpenClaim := { program := "yteicnmliccdgeaa", sum := "bef710e1338a768c3f7b138839fdd25c0b70b84fe5fbad2215c488283547aece", func := "runrig/runriglaw22.ReachChain", spec := "reachChain", unfollowed := true, recurses := true, apart := false, narrowed := true }
def ReachChainUptoSaid : Prop := reachChainUptoRow.holds Try.pinned (OpenSpec.upto reachChainSpec)

/-- 'runriglaw22.ReachMore', WHERE WHAT IT READS IS OF BULK AT MOST 1048576: true; the input reads as it did. -/
def reachMoreUptoRow : OpenClaim := { program := "yteicnmliccdgeaa", sum := "bef710e1338a768c3f7b138839fdd25c0b70b84fe5fbad2215c488283547aece", func := "runrig/runriglaw22.ReachMore", spec := "reachMore", unfollowed := true, recurses := true, apart := false, narrowed := true }
def ReachMoreUptoSaid : Prop := reachMoreUptoRow.holds Try.pinned (OpenSpec.upto reachMoreSpec)

end Rows
end Go.Proofs.Yteicnmliccdgeaa
