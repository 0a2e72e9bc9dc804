/-
  No cell of these rows narrows 'for every input' (looked for: loops, veiled, ifaces, maps, wideKeys, modest, calm, conditions, laid).
  DERIVED. THE GIVEN ROWS OF THIS SEAT. 5 by the template 'for every input the law returns true; each argument reads behind the call as it read before'; 0 by the template 'total and deterministic' (their statements: YtlcehclecbakiaaGreatTotals.lean).
  GIVEN WITH THE SEED: the statements are not yours to turn. If you find one false, say at which input.
  Laid BY PROGRAM, IN A SANDBOX (cutbox-rows.mjs): the forced cells as the released guide's own fill.sh prints them over the translation f38be6385b3cb545… (all of the seat's roots in one cut). By AI agents, Wed Nov 11 2026. No macro, syntax, notation, axiom, sorry.
-/
import Derived.Test.YtlcehclecbakiaaGreatChecked
import GoSem.Claim
import GoSem.ClaimJoined
import GoSem.ClaimMapViews
import Derived.JoinedTies
import Derived.KernelRfl
namespace Go.Proofs.YtlcehclecbakiaaGreat
/- THE CELL 'sum', in the pinned program and in every row, IS THE sha256 OF THE DUMP (.gsa) THAT YtlcehclecbakiaaGreatProg.lean LOADS. Nothing in Lean hashes anything: it is a label: what it is worth is what the hold of that sum in a sandbox is worth. -/
noncomputable def Tryz.pinned : Pinned := { name := "ytlcehclecbakiaagreat", sum := "f38be6385b3cb54559cabbc0c6846ba9513b4908242ce66a318b751a001b2348", checked := Tryz.checked }
namespace Rows
def none {H : Type} : Left H := { results := [], args := [] }

/-- 'runriglaw19.ConsMake': WHATEVER THE INPUT: true; the input reads as it did. -/
def consMakeSpec : ChangeSpec := { name := "consMake", fn := fun _ => fun
  | [d] => { results := [.lit (.bool true)], args := [d] }
  | _ => none }
def consMakeRow : OpenClaim := { program := "ytlcehclecbakiaagreat", sum := "f38be6385b3cb54559cabbc0c6846ba9513b4908242ce66a318b751a001b2348", func := "runrig/runriglaw19.ConsMake", spec := "consMake", recurses := true, apart := false }
def ConsMakeSaid : Prop := consMakeRow.holds Tryz.pinned (OpenSpec.ofChange consMakeSpec)

/-- ITS FALSE NEIGHBOUR: 'it returns false'. Refute it at one input. -/
def consMakeWrong : ChangeSpec := { name := "consMake", fn := fun _ => fun
  | [d] => { results := [.lit (.bool false)], args := [d] }
  | _ => none }
def ConsMakeWrongFalsely : Prop := consMakeRow.holds Tryz.pinned (OpenSpec.ofChange consMakeWrong)

/-- 'runriglaw19.ConsTexts': WHATEVER THE INPUT: true; the input reads as it did. -/
def consTextsSpec : ChangeSpec := { name := "consTexts", fn := fun _ => fun
  | [d] => { results := [.lit (.bool true)], args := [d] }
  | _ => none }
def consTextsRow : OpenClaim := { program := "ytlcehclecbakiaagreat", sum := "f38be6385b3cb54559cabbc0c6846ba9513b4908242ce66a318b751a001b2348", func := "runrig/runriglaw19.ConsTexts", spec := "consTexts", recurses := true, apart := false }
def ConsTextsSaid : Prop := consTextsRow.holds Tryz.pinned (OpenSpec.ofChange consTextsSpec)

/-- ITS FALSE NEIGHBOUR: 'it returns false'. Refute it at one input. -/
def consTextsWrong : ChangeSpec := { name := "consTexts", fn := fun _ => fun
  | [d] => { results := [.lit (.bool false)], args := [d] }
  | _ => none }
def ConsTextsWrongFalsely : Prop := consTextsRow.holds Tryz.pinned (OpenSpec.ofChange consTextsWrong)

/-- 'runriglaw19.ConsKnown': WHATEVER THE INPUT: true; the input reads as it did. -/
def consKnownSpec : ChangeSpec := { name := "consKnown", fn := fun _ => fun
  | [d] => { results := [.lit (.bool true)], args := [d] }
  | _ => none }
def consKnownRow : OpenClaim := { program := "ytlcehclecbakiaagreat", sum := "f38be6385b3cb54559cabbc0c6846ba9513b4908242ce66a318b751a001b2348", func := "runrig/runriglaw19.ConsKnown", spec := "consKnown", recurses := true, apart := false }
def ConsKnownSaid : Prop := consKnownRow.holds Tryz.pinned (OpenSpec.ofChange consKnownSpec)

/-- ITS FALSE NEIGHBOUR: 'it returns false'. Refute it at one input. -/
def consKnownWrong : ChangeSpec := { name := "consKnown", fn := fun _ => fun
  | [d] => { results := [.lit (.bool false)], args := [d] }
  | _ => none }
def ConsKnownWrongFalsely : Prop := consKnownRow.holds Tryz.pinned (OpenSpec.ofChange consKnownWrong)

/-- 'runriglaw19.ConsNodes': WHATEVER THE INPUT: true; the input reads as it did. -/
def consNodesSpec : ChangeSpec := { name := "consNodes", fn := fun _ => fun
  | [d1, d2, d3] => { results := [.lit (.bool true)], args := [d1, d2, d3] }
  | _ => none }
def consNodesRow : OpenClaim := { program := "ytlcehclecbakiaagreat", sum := "f38be6385b3cb54559cabbc0c6846ba9513b4908242ce66a318b751a001b2348", func := "runrig/runriglaw19.ConsNodes", spec := "consNodes", recurses := true, apart := false }
def ConsNodesSaid : Prop := consNodesRow.holds Tryz.pinned (OpenSpec.ofChange consNodesSpec)

/-- ITS FALSE NEIGHBOUR: 'it returns false'. Refute it at one input. -/
def consNodesWrong : ChangeSpec := { name := "consNodes", fn := fun _ => fun
  | [d1, d2, d3] => { results := [.lit (.bool false)], args := [d1, d2, d3] }
  | _ => none }
def ConsNodesWrongFalsely : Prop := consNodesRow.holds Tryz.pinned (OpenSpec.ofChange consNodesWrong)

/-- 'runriglaw19.ConsSpread': WHATEVER THE INPUT: true; the input reads as it did. -/
def consSpreadSpec : ChangeSpec := { name := "consSpread", fn := fun _ => fun
  | [d] => { results := [.lit (.bool true)], args := [d] }
  | _ => none }
def consSpreadRow : OpenClaim := { program := "ytlcehclecbakiaagreat", sum := "f38be6385b3cb54559cabbc0c6846ba9513b4908242ce66a318b751a001b2348", func := "runrig/runriglaw19.ConsSpread", spec := "consSpread", recurses := true, apart := false }
def ConsSpreadSaid : Prop := consSpreadRow.holds Tryz.pinned (OpenSpec.ofChange consSpreadSpec)

/-- ITS FALSE NEIGHBOUR: 'it returns false'. Refute it at one input. -/
def consSpreadWrong : ChangeSpec := { name := "consSpread", fn := fun _ => fun
  | [d] => { results := [.lit (.bool false)], args := [d] }
  | _ => none }
def ConsSpreadWrongFalsely : Prop := consSpreadRow.holds Tryz.pinned (OpenSpec.ofChange consSpreadWrong)

/- THE SECOND FORM. 'bulk': how many values and letters a reading holds, each counted each time it is reached (what is shared counts as often as it is met; a slice's spare places count too). A statement '..UptoSaid' is the law's where the arguments, and the package variables that the reading takes, are together of bulk at most 1048576: NARROWER than '..Said'. Prove '..Said' where nothing that the law and all that it calls make is longer than what came in: it says more and counts as full. Else prove '..UptoSaid'. A law counts once. -/
mutual
def uptoBulk {H : Type} : DataW H → Nat
  | .lit (.string bytes) => bytes.length + 1
  | .lit _ => 1
  | .nil => 1
  | .ptr d => uptoBulk d + 1
  | .slice elems spare => uptoBulkAll elems + uptoBulkAll spare + 1
  | .agg parts => uptoBulkAll parts + 1
  | .iface _ d => uptoBulk d + 1
  | .map entries => uptoBulkEntries entries + 1
  | .held _ => 1
def uptoBulkAll {H : Type} : List (DataW H) → Nat
  | [] => 0
  | d :: r => uptoBulk d + uptoBulkAll r
def uptoBulkEntries {H : Type} : List (Lit × DataW H) → Nat
  | [] => 0
  | x :: r => uptoBulkEntry x + uptoBulkEntries r
def uptoBulkEntry {H : Type} : Lit × DataW H → Nat
  | (.string bytes, d) => bytes.length + uptoBulk d + 1
  | (_, d) => uptoBulk d + 1
 end
def uptoSmall : (H : Type) → List (DataW H) → Bool := fun _ ds => decide (uptoBulkAll ds ≤ 1048576)
def OpenSpec.upto (s : _root_.Go.ChangeSpec) : _root_.Go.OpenSpec := { _root_.Go.OpenSpec.ofChange s with cond := some uptoSmall }

/-- 'runriglaw19.ConsMake', WHERE WHAT IT READS IS OF BULK AT MOST 1048576: true; the input reads as it did. -/
def consMakeUptoRow : OpenClaim := { program := "ytlcehclecbakiaagreat", sum := "f38be6385b3cb54559cabbc0c6846ba9513b4908242ce66a318b751a001b2348", func := "runrig/runriglaw19.ConsMake", spec := "consMake", recurses := true, apart := false, narrowed := true }
def ConsMakeUptoSaid : Prop := consMakeUptoRow.holds Tryz.pinned (OpenSpec.upto consMakeSpec)

/-- 'runriglaw19.ConsTexts', WHERE WHAT IT READS IS OF BULK AT MOST 1048576: true; the input reads as it did. -/
def consTextsUptoRow : OpenClaim := { program := "ytlcehclecbakiaagreat", sum := "f38be6385b3cb54559cabbc0c6846ba9513b4908242ce66a318b751a001b2348", func := "runrig/runriglaw19.ConsTexts", spec := "consTexts", recurses := true, apart := false, narrowed := true }
def ConsTextsUptoSaid : Prop := consTextsUptoRow.holds Tryz.pinned (OpenSpec.upto consTextsSpec)

/-- 'runriglaw19.ConsKnown', WHERE WHAT IT READS IS OF BULK AT MOST 1048576: true; the input reads as it did. -/
def consKnownUptoRow : OpenClaim := { program := "ytlcehclecbakiaagreat", sum := "f38be6385b3cb54559cabbc0c6846ba9513b4908242ce66a318b751a001b2348", func := "runrig/runriglaw19.ConsKnown", spec := "consKnown", recurses := true, apart := false, narrowed := true }
def ConsKnownUptoSaid : Prop := consKnownUptoRow.holds Tryz.pinned (OpenSpec.upto consKnownSpec)

/-- 'runriglaw19.ConsNodes', WHERE WHAT IT READS IS OF BULK AT MOST 1048576: true; the input reads as it did. -/
def consNodesUptoRow : OpenClaim := { program := "ytlcehclecbakiaagreat", sum := "f38be6385b3cb54559cabbc0c6846ba9513b4908242ce66a318b751a001b2348", func := "runrig/runriglaw19.ConsNodes", spec := "consNodes", recurses := true, apart := false, narrowed := true }
def ConsNodesUptoSaid : Prop := consNodesUptoRow.holds Tryz.pinned (OpenSpec.upto consNodesSpec)

/-- 'runriglaw19.ConsSpread', WHERE WHAT IT READS IS OF BULK AT MOST 1048576: true; the input reads as it did. -/
def consSpreadUptoRow : OpenClaim := { program := "ytlcehclecbakiaagreat", sum := "f38be6385b3cb54559cabbc0c6846ba9513b4908242ce66a318b751a001b2348", func := "runrig/runriglaw19.ConsSpread", spec := "consSpread", recurses := true, apart := false, narrowed := true }
def ConsSpreadUptoSaid : Prop := consSpreadUptoRow.holds Tryz.pinned (OpenSpec.upto consSpreadSpec)

end Rows
end Go.Proofs.YtlcehclecbakiaaGreat
