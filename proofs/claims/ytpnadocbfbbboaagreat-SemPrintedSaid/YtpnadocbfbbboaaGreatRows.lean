/-
  No cell of these rows narrows 'for every input' (looked for: loops, veiled, ifaces, maps, wideKeys, modest, calm, conditions, laid).
  DERIVED. THE GIVEN ROWS OF THIS SEAT. 7 by the template 'for every input the law returns true; each argument reads behind the call as it read before'; 0 by the template 'total and deterministic' (their statements: YtpnadocbfbbboaaGreatTotals.lean).
  GIVEN WITH THE SEED: the statements are not yours to turn. If you find one false, say at which input.
  Laid BY PROGRAM, IN A SANDBOX (cutbox-rows.mjs): the forced cells as the released guide's own fill.sh prints them over the translation f151703ec0ac9d0e… (all of the seat's roots in one cut). By AI agents, Wed Nov 11 2026. No macro, syntax, notation, axiom, sorry.
-/
import Derived.Test.YtpnadocbfbbboaaGreatChecked
import GoSem.Claim
import GoSem.ClaimJoined
import GoSem.ClaimMapViews
import Derived.JoinedTies
import Derived.KernelRfl
namespace Go.Proofs.YtpnadocbfbbboaaGreat
/- THE CELL 'sum', in the pinned program and in every row, IS THE sha256 OF THE DUMP (.gsa) THAT YtpnadocbfbbboaaGreatProg.lean LOADS. Nothing in Lean hashes anything: it is a label: what it is worth is what the hold of that sum in a sandbox is worth. -/
noncomputable def Tryz.pinned : Pinned := { name := "ytpnadocbfbbboaagreat", sum := "f151703ec0ac9d0e09321197df6ad985e7d177fce53f7dd744c004ddca6060f5", checked := Tryz.checked }
namespace Rows
def none {H : Type} : Left H := { results := [], args := [] }

/-- 'runriglaw11.SemRuns': WHATEVER THE INPUT: true; the input reads as it did. -/
def semRunsSpec : ChangeSpec := { name := "semRuns", fn := fun _ => fun
  | [d1, d2, d3] => { results := [.lit (.bool true)], args := [d1, d2, d3] }
  | _ => none }
def semRunsRow : OpenClaim := { program := "ytpnadocbfbbboaagreat", sum := "f151703ec0ac9d0e09321197df6ad985e7d177fce53f7dd744c004ddca6060f5", func := "runrig/runriglaw11.SemRuns", spec := "semRuns", unfollowed := true, recurses := true, apart := false }
def SemRunsSaid : Prop := semRunsRow.holds Tryz.pinned (OpenSpec.ofChange semRunsSpec)

/-- ITS FALSE NEIGHBOUR: 'it returns false'. Refute it at one input. -/
def semRunsWrong : ChangeSpec := { name := "semRuns", fn := fun _ => fun
  | [d1, d2, d3] => { results := [.lit (.bool false)], args := [d1, d2, d3] }
  | _ => none }
def SemRunsWrongFalsely : Prop := semRunsRow.holds Tryz.pinned (OpenSpec.ofChange semRunsWrong)

/-- 'runriglaw11.SemMore': WHATEVER THE INPUT: true; the input reads as it did. -/
def semMoreSpec : ChangeSpec := { name := "semMore", fn := fun _ => fun
  | [d1, d2, d3, d4] => { results := [.lit (.bool true)], args := [d1, d2, d3, d4] }
  | _ => none }
def semMoreRow : OpenClaim := { program := "ytpnadocbfbbboaagreat", sum := "f151703ec0ac9d0e09321197df6ad985e7d177fce53f7dd744c004ddca6060f5", func := "runrig/runriglaw11.SemMore", spec := "semMore", unfollowed := true, recurses := true, apart := false }
def SemMoreSaid : Prop := semMoreRow.holds Tryz.pinned (OpenSpec.ofChange semMoreSpec)

/-- ITS FALSE NEIGHBOUR: 'it returns false'. Refute it at one input. -/
def semMoreWrong : ChangeSpec := { name := "semMore", fn := fun _ => fun
  | [d1, d2, d3, d4] => { results := [.lit (.bool false)], args := [d1, d2, d3, d4] }
  | _ => none }
def SemMoreWrongFalsely : Prop := semMoreRow.holds Tryz.pinned (OpenSpec.ofChange semMoreWrong)

/-- 'runriglaw11.SemInput': WHATEVER THE INPUT: true; the input reads as it did. -/
def semInputSpec : ChangeSpec := { name := "semInput", fn := fun _ => fun
  | [d1, d2, d3, d4] => { results := [.lit (.bool true)], args := [d1, d2, d3, d4] }
  | _ => none }
def semInputRow : OpenClaim := { program := "ytpnadocbfbbboaagreat", sum := "f151703ec0ac9d0e09321197df6ad985e7d177fce53f7dd744c004ddca6060f5", func := "runrig/runriglaw11.SemInput", spec := "semInput", unfollowed := true, recurses := true, apart := false }
def SemInputSaid : Prop := semInputRow.holds Tryz.pinned (OpenSpec.ofChange semInputSpec)

/-- ITS FALSE NEIGHBOUR: 'it returns false'. Refute it at one input. -/
def semInputWrong : ChangeSpec := { name := "semInput", fn := fun _ => fun
  | [d1, d2, d3, d4] => { results := [.lit (.bool false)], args := [d1, d2, d3, d4] }
  | _ => none }
def SemInputWrongFalsely : Prop := semInputRow.holds Tryz.pinned (OpenSpec.ofChange semInputWrong)

/-- 'runriglaw11.SemPrinted': WHATEVER THE INPUT: true; the input reads as it did. -/
def semPrintedSpec : ChangeSpec := { name := "semPrinted", fn := fun _ => fun
  | [d1, d2, d3] => { results := [.lit (.bool true)], args := [d1, d2, d3] }
  | _ => none }
def semPrintedRow : OpenClaim := { program := "ytpnadocbfbbboaagreat", sum := "f151703ec0ac9d0e09321197df6ad985e7d177fce53f7dd744c004ddca6060f5", func := "runrig/runriglaw11.SemPrinted", spec := "semPrinted", unfollowed := true, recurses := true, apart := false }
def SemPrintedSaid : Prop := semPrintedRow.holds Tryz.pinned (OpenSpec.ofChange semPrintedSpec)

/-- ITS FALSE NEIGHBOUR: 'it returns false'. Refute it at one input. -/
def semPrintedWrong : ChangeSpec := { name := "semPrinted", fn := fun _ => fun
  | [d1, d2, d3] => { results := [.lit (.bool false)], args := [d1, d2, d3] }
  | _ => none }
def SemPrintedWrongFalsely : Prop := semPrintedRow.holds Tryz.pinned (OpenSpec.ofChange semPrintedWrong)

/-- 'runriglaw11.SemKnown': WHATEVER THE INPUT: true; the input reads as it did. -/
def semKnownSpec : ChangeSpec := { name := "semKnown", fn := fun _ => fun
  | [d] => { results := [.lit (.bool true)], args := [d] }
  | _ => none }
def semKnownRow : OpenClaim := { program := "ytpnadocbfbbboaagreat", sum := "f151703ec0ac9d0e09321197df6ad985e7d177fce53f7dd744c004ddca6060f5", func := "runrig/runriglaw11.SemKnown", spec := "semKnown", unfollowed := true, recurses := true, apart := false }
def SemKnownSaid : Prop := semKnownRow.holds Tryz.pinned (OpenSpec.ofChange semKnownSpec)

/-- ITS FALSE NEIGHBOUR: 'it returns false'. Refute it at one input. -/
def semKnownWrong : ChangeSpec := { name := "semKnown", fn := fun _ => fun
  | [d] => { results := [.lit (.bool false)], args := [d] }
  | _ => none }
def SemKnownWrongFalsely : Prop := semKnownRow.holds Tryz.pinned (OpenSpec.ofChange semKnownWrong)

/-- 'runriglaw11.SemDeep': WHATEVER THE INPUT: true; the input reads as it did. -/
def semDeepSpec : ChangeSpec := { name := "semDeep", fn := fun _ => fun
  | [d] => { results := [.lit (.bool true)], args := [d] }
  | _ => none }
def semDeepRow : OpenClaim := { program := "ytpnadocbfbbboaagreat", sum := "f151703ec0ac9d0e09321197df6ad985e7d177fce53f7dd744c004ddca6060f5", func := "runrig/runriglaw11.SemDeep", spec := "semDeep", unfollowed := true, recurses := true, apart := false }
def SemDeepSaid : Prop := semDeepRow.holds Tryz.pinned (OpenSpec.ofChange semDeepSpec)

/-- ITS FALSE NEIGHBOUR: 'it returns false'. Refute it at one input. -/
def semDeepWrong : ChangeSpec := { name := "semDeep", fn := fun _ => fun
  | [d] => { results := [.lit (.bool false)], args := [d] }
  | _ => none }
def SemDeepWrongFalsely : Prop := semDeepRow.holds Tryz.pinned (OpenSpec.ofChange semDeepWrong)

/-- 'runriglaw11.SemOrder': WHATEVER THE INPUT: true; the input reads as it did. -/
def semOrderSpec : ChangeSpec := { name := "semOrder", fn := fun _ => fun
  | [d] => { results := [.lit (.bool true)], args := [d] }
  | _ => none }
def semOrderRow : OpenClaim := { program := "ytpnadocbfbbboaagreat", sum := "f151703ec0ac9d0e09321197df6ad985e7d177fce53f7dd744c004ddca6060f5", func := "runrig/runriglaw11.SemOrder", spec := "semOrder", unfollowed := true, recurses := true, apart := false }
def SemOrderSaid : Prop := semOrderRow.holds Tryz.pinned (OpenSpec.ofChange semOrderSpec)

/-- ITS FALSE NEIGHBOUR: 'it returns false'. Refute it at one input. -/
def semOrderWrong : ChangeSpec := { name := "semOrder", fn := fun _ => fun
  | [d] => { results := [.lit (.bool false)], args := [d] }
  | _ => none }
def SemOrderWrongFalsely : Prop := semOrderRow.holds Tryz.pinned (OpenSpec.ofChange semOrderWrong)

/- THE SECOND FORM. 'bulk': how many values and letters a reading holds, each counted each time it is reached (what is shared counts as often as it is met; a slice's spare places count too). A statement '..UptoSaid' is the law's where the arguments, and the package variables that the reading takes, are together of bulk at most 1048576: NARROWER than '..Said'. Prove '..Said' where nothing that the law and all that it calls make is longer than what came in: it says more and counts as full. Else prove '..UptoSaid'. A law counts once. -/
mutual
def uptoBulk {H : Type} : DataW H → Nat
  | .lit (.string bytes) => bytes.length + 1
  | .lit _ => 1
  | .nil => 1
  | .ptr d => uptoBulk d + 1
  | .slice elems spare => uptoBulkAll elems + uptoBulkAll spare + 1
  | .agg parts => uptoBulkAll parts + 1
  | .iface _ d => uptoBulk d + 1
  | .map entries => uptoBulkEntries entries + 1
  | .held _ => 1
def uptoBulkAll {H : Type} : List (DataW H) → Nat
  | [] => 0
  | d :: r => uptoBulk d + uptoBulkAll r
def uptoBulkEntries {H : Type} : List (Lit × DataW H) → Nat
  | [] => 0
  | x :: r => uptoBulkEntry x + uptoBulkEntries r
def uptoBulkEntry {H : Type} : Lit × DataW H → Nat
  | (.string bytes, d) => bytes.length + uptoBulk d + 1
  | (_, d) => uptoBulk d + 1
 end
def uptoSmall : (H : Type) → List (DataW H) → Bool := fun _ ds => decide (uptoBulkAll ds ≤ 1048576)
def OpenSpec.upto (s : _root_.Go.ChangeSpec) : _root_.Go.OpenSpec := { _root_.Go.OpenSpec.ofChange s with cond := some uptoSmall }

/-- 'runriglaw11.SemRuns', WHERE WHAT IT READS IS OF BULK AT MOST 1048576: true; the input reads as it did. -/
def semRunsUptoRow : OpenClaim := { program := "ytpnadocbfbbboaagreat", sum := "f151703ec0ac9d0e09321197df6ad985e7d177fce53f7dd744c004ddca6060f5", func := "runrig/runriglaw11.SemRuns", spec := "semRuns", unfollowed := true, recurses := true, apart := false, narrowed := true }
def SemRunsUptoSaid : Prop := semRunsUptoRow.holds Tryz.pinned (OpenSpec.upto semRunsSpec)

/-- 'runriglaw11.SemMore', WHERE WHAT IT READS IS OF BULK AT MOST 1048576: true; the input reads as it did. -/
def semMoreUptoRow : OpenClaim := { program := "ytpnadocbfbbboaagreat", sum := "f151703ec0ac9d0e09321197df6ad985e7d177fce53f7dd744c004ddca6060f5", func := "runrig/runriglaw11.SemMore", spec := "semMore", unfollowed := true, recurses := true, apart := false, narrowed := true }
def SemMoreUptoSaid : Prop := semMoreUptoRow.holds Tryz.pinned (OpenSpec.upto semMoreSpec)

/-- 'runriglaw11.SemInput', WHERE WHAT IT READS IS OF BULK AT MOST 1048576: true; the input reads as it did. -/
def semInputUptoRow : OpenClaim := { program := "ytpnadocbfbbboaagreat", sum := "f151703ec0ac9d0e09321197df6ad985e7d177fce53f7dd744c004ddca6060f5", func := "runrig/runriglaw11.SemInput", spec := "semInput", unfollowed := true, recurses := true, apart := false, narrowed := true }
def SemInputUptoSaid : Prop := semInputUptoRow.holds Tryz.pinned (OpenSpec.upto semInputSpec)

/-- 'runriglaw11.SemPrinted', WHERE WHAT IT READS IS OF BULK AT MOST 1048576: true; the input reads as it did. -/
def semPrintedUptoRow : OpenClaim := { program := "ytpnadocbfbbboaagreat", sum := "f151703ec0ac9d0e09321197df6ad985e7d177fce53f7dd744c004ddca6060f5", func := "runrig/runriglaw11.SemPrinted", spec := "semPrinted", unfollowed := true, recurses := true, apart := false, narrowed := true }
def SemPrintedUptoSaid : Prop := semPrintedUptoRow.holds Tryz.pinned (OpenSpec.upto semPrintedSpec)

/-- 'runriglaw11.SemKnown', WHERE WHAT IT READS IS OF BULK AT MOST 1048576: true; the input reads as it did. -/
def semKnownUptoRow : OpenClaim := { program := "ytpnadocbfbbboaagreat", sum := "f151703ec0ac9d0e09321197df6ad985e7d177fce53f7dd744c004ddca6060f5", func := "runrig/runriglaw11.SemKnown", spec := "semKnown", unfollowed := true, recurses := true, apart := false, narrowed := true }
def SemKnownUptoSaid : Prop := semKnownUptoRow.holds Tryz.pinned (OpenSpec.upto semKnownSpec)

/-- 'runriglaw11.SemDeep', WHERE WHAT IT READS IS OF BULK AT MOST 1048576: true; the input reads as it did. -/
def semDeepUptoRow : OpenClaim := { program := "ytpnadocbfbbboaagreat", sum := "f151703ec0ac9d0e09321197df6ad985e7d177fce53f7dd744c004ddca6060f5", func := "runrig/runriglaw11.SemDeep", spec := "semDeep", unfollowed := true, recurses := true, apart := false, narrowed := true }
def SemDeepUptoSaid : Prop := semDeepUptoRow.holds Tryz.pinned (OpenSpec.upto semDeepSpec)

/-- 'runriglaw11.SemOrder', WHERE WHAT IT READS IS OF BULK AT MOST 1048576: true; the input reads as it did. -/
def semOrderUptoRow : OpenClaim := { program := "ytpnadocbfbbboaagreat", sum := "f151703ec0ac9d0e09321197df6ad985e7d177fce53f7dd744c004ddca6060f5", func := "runrig/runriglaw11.SemOrder", spec := "semOrder", unfollowed := true, recurses := true, apart := false, narrowed := true }
def SemOrderUptoSaid : Prop := semOrderUptoRow.holds Tryz.pinned (OpenSpec.upto semOrderSpec)

end Rows
end Go.Proofs.YtpnadocbfbbboaaGreat
