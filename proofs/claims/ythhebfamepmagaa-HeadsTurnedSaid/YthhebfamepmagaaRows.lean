/-
  NARROWER THAN 'FOR EVERY INPUT', by the rows' own cells (each row's printed sentence says how): HeadsRaw: loops.
  DERIVED. THE GIVEN ROWS OF THIS SEAT. 6 by the template 'for every input the law returns true; each argument reads behind the call as it read before'; 0 by the template 'total and deterministic' (their statements: YthhebfamepmagaaTotals.lean).
  GIVEN WITH THE SEED: the statements are not yours to turn. If you find one false, say at which input.
  Laid BY PROGRAM, IN A SANDBOX (cutbox-rows.mjs): the forced cells as the released guide's own fill.sh prints them over the translation 2035b97e1ae26c66… (all of the seat's roots in one cut). By AI agents, Wed Nov 11 2026. No macro, syntax, notation, axiom, sorry.
-/
import Derived.Test.YthhebfamepmagaaChecked
import GoSem.Claim
import GoSem.ClaimJoined
import GoSem.ClaimMapViews
import Derived.JoinedTies
import Derived.KernelRfl
namespace Go.Proofs.Ythhebfamepmagaa
/- THE CELL 'sum', in the pinned program and in every row, IS THE sha256 OF THE DUMP (.gsa) THAT YthhebfamepmagaaProg.lean LOADS. Nothing in Lean hashes anything: it is a label: what it is worth is what the hold of that sum in a sandbox is worth. -/
noncomputable def Try.pinned : Pinned := { name := "ythhebfamepmagaa", sum := "2035b97e1ae26c6663c6fa8d14a2f2e5e28d46b82c7da929959b6b616ad1289f", checked := Try.checked }
namespace Rows
def none {H : Type} : Left H := { results := [], args := [] }

/-- 'runriglaw7.HeadsMake': WHATEVER THE INPUT: true; the input reads as it did. -/
def headsMakeSpec : ChangeSpec := { name := "headsMake", fn := fun _ => fun
  | [d] => { results := [.lit (.bool true)], args := [d] }
  | _ => none }
def headsMakeRow : OpenClaim := { program := "ythhebfamepmagaa", sum := "2035b97e1ae26c6663c6fa8d14a2f2e5e28d46b82c7da929959b6b616ad1289f", func := "runrig/runriglaw7.HeadsMake", spec := "headsMake", unfollowed := true, recurses := true, apart := false }
def HeadsMakeSaid : Prop := headsMakeRow.holds Try.pinned (OpenSpec.ofChange headsMakeSpec)

/-- ITS FALSE NEIGHBOUR: 'it returns false'. Refute it at one input. -/
def headsMakeWrong : ChangeSpec := { name := "headsMake", fn := fun _ => fun
  | [d] => { results := [.lit (.bool false)], args := [d] }
  | _ => none }
def HeadsMakeWrongFalsely : Prop := headsMakeRow.holds Try.pinned (OpenSpec.ofChange headsMakeWrong)

/-- 'runriglaw7.HeadsRaw': WHATEVER THE INPUT: true; the input reads as it did. -/
def headsRawSpec : ChangeSpec := { name := "headsRaw", fn := fun _ => fun
  | [d] => { results := [.lit (.bool true)], args := [d] }
  | _ => none }
def headsRawRow : OpenClaim := { program := "ythhebfamepmagaa", sum := "2035b97e1ae26c6663c6fa8d14a2f2e5e28d46b82c7da929959b6b616ad1289f", func := "runrig/runriglaw7.HeadsRaw", spec := "headsRaw", unfollowed := true, recurses := true, loops := true, apart := false }
def HeadsRawSaid : Prop := headsRawRow.holds Try.pinned (OpenSpec.ofChange headsRawSpec)

/-- ITS FALSE NEIGHBOUR: 'it returns false'. Refute it at one input. -/
def headsRawWrong : ChangeSpec := { name := "headsRaw", fn := fun _ => fun
  | [d] => { results := [.lit (.bool false)], args := [d] }
  | _ => none }
def HeadsRawWrongFalsely : Prop := headsRawRow.holds Try.pinned (OpenSpec.ofChange headsRawWrong)

/-- 'runriglaw7.HeadsTypes': WHATEVER THE INPUT: true; the input reads as it did. -/
def headsTypesSpec : ChangeSpec := { name := "headsTypes", fn := fun _ => fun
  | [d1, d2, d3] => { results := [.lit (.bool true)], args := [d1, d2, d3] }
  | _ => none }
def headsTypesRow : OpenClaim := { program := "ythhebfamepmagaa", sum := "2035b97e1ae26c6663c6fa8d14a2f2e5e28d46b82c7da929959b6b616ad1289f", func := "runrig/runriglaw7.HeadsTypes", spec := "headsTypes", unfollowed := true, recurses := true, apart := false }
def HeadsTypesSaid : Prop := headsTypesRow.holds Try.pinned (OpenSpec.ofChange headsTypesSpec)

/-- ITS FALSE NEIGHBOUR: 'it returns false'. Refute it at one input. -/
def headsTypesWrong : ChangeSpec := { name := "headsTypes", fn := fun _ => fun
  | [d1, d2, d3] => { results := [.lit (.bool false)], args := [d1, d2, d3] }
  | _ => none }
def HeadsTypesWrongFalsely : Prop := headsTypesRow.holds Try.pinned (OpenSpec.ofChange headsTypesWrong)

/-- 'runriglaw7.HeadsTurned': WHATEVER THE INPUT: true; the input reads as it did. -/
def headsTurnedSpec : ChangeSpec := { name := "headsTurned", fn := fun _ => fun
  | [d] => { results := [.lit (.bool true)], args := [d] }
  | _ => none }
def headsTurnedRow : OpenClaim := { program := "ythhebfamepmagaa", sum := "2035b97e1ae26c6663c6fa8d14a2f2e5e28d46b82c7da929959b6b616ad1289f", func := "runrig/runriglaw7.HeadsTurned", spec := "headsTurned", unfollowed := true, recurses := true, apart := false }
def HeadsTurnedSaid : Prop := headsTurnedRow.holds Try.pinned (OpenSpec.ofChange headsTurnedSpec)

/-- ITS FALSE NEIGHBOUR: 'it returns false'. Refute it at one input. -/
def headsTurnedWrong : ChangeSpec := { name := "headsTurned", fn := fun _ => fun
  | [d] => { results := [.lit (.bool false)], args := [d] }
  | _ => none }
def HeadsTurnedWrongFalsely : Prop := headsTurnedRow.holds Try.pinned (OpenSpec.ofChange headsTurnedWrong)

/-- 'runriglaw7.HeadsOdd': WHATEVER THE INPUT: true; the input reads as it did. -/
def headsOddSpec : ChangeSpec := { name := "headsOdd", fn := fun _ => fun
  | [d] => { results := [.lit (.bool true)], args := [d] }
  | _ => none }
def headsOddRow : OpenClaim := { program := "ythhebfamepmagaa", sum := "2035b97e1ae26c6663c6fa8d14a2f2e5e28d46b82c7da929959b6b616ad1289f", func := "runrig/runriglaw7.HeadsOdd", spec := "headsOdd", unfollowed := true, recurses := true, apart := false }
def HeadsOddSaid : Prop := headsOddRow.holds Try.pinned (OpenSpec.ofChange headsOddSpec)

/-- ITS FALSE NEIGHBOUR: 'it returns false'. Refute it at one input. -/
def headsOddWrong : ChangeSpec := { name := "headsOdd", fn := fun _ => fun
  | [d] => { results := [.lit (.bool false)], args := [d] }
  | _ => none }
def HeadsOddWrongFalsely : Prop := headsOddRow.holds Try.pinned (OpenSpec.ofChange headsOddWrong)

/-- 'runriglaw7.HeadsDims': WHATEVER THE INPUT: true; the input reads as it did. -/
def headsDimsSpec : ChangeSpec := { name := "headsDims", fn := fun _ => fun
  | [d1, d2] => { results := [.lit (.bool true)], args := [d1, d2] }
  | _ => none }
def headsDimsRow : OpenClaim := { program := "ythhebfamepmagaa", sum := "2035b97e1ae26c6663c6fa8d14a2f2e5e28d46b82c7da929959b6b616ad1289f", func := "runrig/runriglaw7.HeadsDims", spec := "headsDims", unfollowed := true, recurses := true, apart := false }
def HeadsDimsSaid : Prop := headsDimsRow.holds Try.pinned (OpenSpec.ofChange headsDimsSpec)

/-- ITS FALSE NEIGHBOUR: 'it returns false'. Refute it at one input. -/
def headsDimsWrong : ChangeSpec := { name := "headsDims", fn := fun _ => fun
  | [d1, d2] => { results := [.lit (.bool false)], args := [d1, d2] }
  | _ => none }
def HeadsDimsWrongFalsely : Prop := headsDimsRow.holds Try.pinned (OpenSpec.ofChange headsDimsWrong)

/- THE SECOND FORM. 'bulk': how many values and letters a reading holds, each counted each time it is reached (what is shared counts as often as it is met; a slice's spare places count too). A statement '..UptoSaid' is the law's where the arguments, and the package variables that the reading takes, are together of bulk at most 1048576: NARROWER than '..Said'. Prove '..Said' where nothing that the law and all that it calls make is longer than what came in: it says more and counts as full. Else prove '..UptoSaid'. A law counts once. -/
mutual
def uptoBulk {H : Type} : DataW H → Nat
  | .lit (.string bytes) => bytes.length + 1
  | .lit _ => 1
  | .nil => 1
  | .ptr d => uptoBulk d + 1
  | .slice elems spare => uptoBulkAll elems + uptoBulkAll spare + 1
  | .agg parts => uptoBulkAll parts + 1
  | .iface _ d => uptoBulk d + 1
  | .map entries => uptoBulkEntries entries + 1
  | .held _ => 1
def uptoBulkAll {H : Type} : List (DataW H) → Nat
  | [] => 0
  | d :: r => uptoBulk d + uptoBulkAll r
def uptoBulkEntries {H : Type} : List (Lit × DataW H) → Nat
  | [] => 0
  | x :: r => uptoBulkEntry x + uptoBulkEntries r
def uptoBulkEntry {H : Type} : Lit × DataW H → Nat
  | (.string bytes, d) => bytes.length + uptoBulk d + 1
  | (_, d) => uptoBulk d + 1
 end
def uptoSmall : (H : Type) → List (DataW H) → Bool := fun _ ds => decide (uptoBulkAll ds ≤ 1048576)
def OpenSpec.upto (s : _root_.Go.ChangeSpec) : _root_.Go.OpenSpec := { _root_.Go.OpenSpec.ofChange s with cond := some uptoSmall }

/-- 'runriglaw7.HeadsMake', WHERE WHAT IT READS IS OF BULK AT MOST 1048576: true; the input reads as it did. -/
def headsMakeUptoRow : OpenClaim := { program := "ythhebfamepmagaa", sum := "2035b97e1ae26c6663c6fa8d14a2f2e5e28d46b82c7da929959b6b616ad1289f", func := "runrig/runriglaw7.HeadsMake", spec := "headsMake", unfollowed := true, recurses := true, apart := false, narrowed := true }
def HeadsMakeUptoSaid : Prop := headsMakeUptoRow.holds Try.pinned (OpenSpec.upto headsMakeSpec)

/-- 'runriglaw7.HeadsRaw', WHERE WHAT IT READS IS OF BULK AT MOST 1048576: true; the input reads as it did. -/
def headsRawUptoRow : OpenClaim := { program := "ythhebfamepmagaa", sum := "2035b97e1ae26c6663c6fa8d14a2f2e5e28d46b82c7da929959b6b616ad1289f", func := "runrig/runriglaw7.HeadsRaw", spec := "headsRaw", unfollowed := true, recurses := true, loops := true, apart := false, narrowed := true }
def HeadsRawUptoSaid : Prop := headsRawUptoRow.holds Try.pinned (OpenSpec.upto headsRawSpec)

/-- 'runriglaw7.HeadsTypes', WHERE WHAT IT READS IS OF BULK AT MOST 1048576: true; the input reads as it did. -/
def headsTypesUptoRow : OpenClaim := { program := "ythhebfamepmagaa", sum := "2035b97e1ae26c6663c6fa8d14a2f2e5e28d46b82c7da929959b6b616ad1289f", func := "runrig/runriglaw7.HeadsTypes", spec := "headsTypes", unfollowed := true, recurses := true, apart := false, narrowed := true }
def HeadsTypesUptoSaid : Prop := headsTypesUptoRow.holds Try.pinned (OpenSpec.upto headsTypesSpec)

/-- 'runriglaw7.HeadsTurned', WHERE WHAT IT READS IS OF BULK AT MOST 1048576: true; the input reads as it did. -/
def headsTurnedUptoRow : OpenClaim := { program := "ythhebfamepmagaa", sum := "2035b97e1ae26c6663c6fa8d14a2f2e5e28d46b82c7da929959b6b616ad1289f", func := "runrig/runriglaw7.HeadsTurned", spec := "headsTurned", unfollowed := true, recurses := true, apart := false, narrowed := true }
def HeadsTurnedUptoSaid : Prop := headsTurnedUptoRow.holds Try.pinned (OpenSpec.upto headsTurnedSpec)

/-- 'runriglaw7.HeadsOdd', WHERE WHAT IT READS IS OF BULK AT MOST 1048576: true; the input reads as it did. -/
def headsOddUptoRow : OpenClaim := { program := "ythhebfamepmagaa", sum := "2035b97e1ae26c6663c6fa8d14a2f2e5e28d46b82c7da929959b6b616ad1289f", func := "runrig/runriglaw7.HeadsOdd", spec := "headsOdd", unfollowed := true, recurses := true, apart := false, narrowed := true }
def HeadsOddUptoSaid : Prop := headsOddUptoRow.holds Try.pinned (OpenSpec.upto headsOddSpec)

/-- 'runriglaw7.HeadsDims', WHERE WHAT IT READS IS OF BULK AT MOST 1048576: true; the input reads as it did. -/
def headsDimsUptoRow : OpenClaim := { program := "ythhebfamepmagaa", sum := "2035b97e1ae26c6663c6fa8d14a2f2e5e28d46b82c7da929959b6b616ad1289f", func := "runrig/runriglaw7.HeadsDims", spec := "headsDims", unfollowed := true, recurses := true, apart := false, narrowed := true }
def HeadsDimsUptoSaid : Prop := headsDimsUptoRow.holds Try.pinned (OpenSpec.upto headsDimsSpec)

end Rows
end Go.Proofs.Ythhebfamepmagaa
