/-
  No cell of these rows narrows 'for every input' (looked for: loops, veiled, ifaces, maps, wideKeys, modest, calm, conditions, laid).
  DERIVED. THE GIVEN ROWS OF THIS SEAT. 5 by the template 'for every input the law returns true; each argument reads behind the call as it read before'; 0 by the template 'total and deterministic' (their statements: YtkjajfhgdlhhhaaTotals.lean).
  GIVEN WITH THE SEED: the statements are not yours to turn. If you find one false, say at which input.
  Laid BY PROGRAM, IN A SANDBOX (cutbox-rows.mjs): the forced cells as the released guide's own fill.sh prints them over the translation f8b4ebf5792654e0… (all of the seat's roots in one cut). By AI agents, Wed Nov 11 2026. No macro, syntax, notation, axiom, sorry.
-/
import Derived.Test.YtkjajfhgdlhhhaaChecked
import GoSem.Claim
import GoSem.ClaimJoined
import GoSem.ClaimMapViews
import Derived.JoinedTies
import Derived.KernelRfl
namespace Go.Proofs.Ytkjajfhgdlhhhaa
/- THE CELL 'sum', in the pinned program and in every row, IS THE sha256 OF THE DUMP (.gsa) THAT YtkjajfhgdlhhhaaProg.lean LOADS. Nothing in Lean hashes anything: it is a label: what it is worth is what the hold of that sum in a sandbox is worth. -/
noncomputable def Try.pinned : Pinned := { name := "ytkjajfhgdlhhhaa", sum := "f8b4ebf5792654e0acf66b886926a935deb96a009bbad0a9eb5678934c7771e8", checked := Try.checked }
namespace Rows
def none {H : Type} : Left H := { results := [], args := [] }

/-- 'runriglaw10.StorePlays': WHATEVER THE INPUT: true; the input reads as it did. -/
def storePlaysSpec : ChangeSpec := { name := "storePlays", fn := fun _ => fun
  | [d] => { results := [.lit (.bool true)], args := [d] }
  | _ => none }
def storePlaysRow : OpenClaim := { program := "ytkjajfhgdlhhhaa", sum := "f8b4ebf5792654e0acf66b886926a935deb96a009bbad0a9eb5678934c7771e8", func := "runrig/runriglaw10.StorePlays", spec := "storePlays", apart := false }
def StorePlaysSaid : Prop := storePlaysRow.holds Try.pinned (OpenSpec.ofChange storePlaysSpec)

/-- ITS FALSE NEIGHBOUR: 'it returns false'. Refute it at one input. -/
def storePlaysWrong : ChangeSpec := { name := "storePlays", fn := fun _ => fun
  | [d] => { results := [.lit (.bool false)], args := [d] }
  | _ => none }
def StorePlaysWrongFalsely : Prop := storePlaysRow.holds Try.pinned (OpenSpec.ofChange storePlaysWrong)

/-- 'runriglaw10.StoreApart': WHATEVER THE INPUT: true; the input reads as it did. -/
def storeApartSpec : ChangeSpec := { name := "storeApart", fn := fun _ => fun
  | [d1, d2] => { results := [.lit (.bool true)], args := [d1, d2] }
  | _ => none }
def storeApartRow : OpenClaim := { program := "ytkjajfhgdlhhhaa", sum := "f8b4ebf5792654e0acf66b886926a935deb96a009bbad0a9eb5678934c7771e8", func := "runrig/runriglaw10.StoreApart", spec := "storeApart", apart := false }
def StoreApartSaid : Prop := storeApartRow.holds Try.pinned (OpenSpec.ofChange storeApartSpec)

/-- ITS FALSE NEIGHBOUR: 'it returns false'. Refute it at one input. -/
def storeApartWrong : ChangeSpec := { name := "storeApart", fn := fun _ => fun
  | [d1, d2] => { results := [.lit (.bool false)], args := [d1, d2] }
  | _ => none }
def StoreApartWrongFalsely : Prop := storeApartRow.holds Try.pinned (OpenSpec.ofChange storeApartWrong)

/-- 'runriglaw10.StoreNil': WHATEVER THE INPUT: true; the input reads as it did. -/
def storeNilSpec : ChangeSpec := { name := "storeNil", fn := fun _ => fun
  | [d1, d2, d3] => { results := [.lit (.bool true)], args := [d1, d2, d3] }
  | _ => none }
def storeNilRow : OpenClaim := { program := "ytkjajfhgdlhhhaa", sum := "f8b4ebf5792654e0acf66b886926a935deb96a009bbad0a9eb5678934c7771e8", func := "runrig/runriglaw10.StoreNil", spec := "storeNil", apart := false }
def StoreNilSaid : Prop := storeNilRow.holds Try.pinned (OpenSpec.ofChange storeNilSpec)

/-- ITS FALSE NEIGHBOUR: 'it returns false'. Refute it at one input. -/
def storeNilWrong : ChangeSpec := { name := "storeNil", fn := fun _ => fun
  | [d1, d2, d3] => { results := [.lit (.bool false)], args := [d1, d2, d3] }
  | _ => none }
def StoreNilWrongFalsely : Prop := storeNilRow.holds Try.pinned (OpenSpec.ofChange storeNilWrong)

/-- 'runriglaw10.StoreSizes': WHATEVER THE INPUT: true; the input reads as it did. -/
def storeSizesSpec : ChangeSpec := { name := "storeSizes", fn := fun _ => fun
  | [d1, d2] => { results := [.lit (.bool true)], args := [d1, d2] }
  | _ => none }
def storeSizesRow : OpenClaim := { program := "ytkjajfhgdlhhhaa", sum := "f8b4ebf5792654e0acf66b886926a935deb96a009bbad0a9eb5678934c7771e8", func := "runrig/runriglaw10.StoreSizes", spec := "storeSizes", apart := false }
def StoreSizesSaid : Prop := storeSizesRow.holds Try.pinned (OpenSpec.ofChange storeSizesSpec)

/-- ITS FALSE NEIGHBOUR: 'it returns false'. Refute it at one input. -/
def storeSizesWrong : ChangeSpec := { name := "storeSizes", fn := fun _ => fun
  | [d1, d2] => { results := [.lit (.bool false)], args := [d1, d2] }
  | _ => none }
def StoreSizesWrongFalsely : Prop := storeSizesRow.holds Try.pinned (OpenSpec.ofChange storeSizesWrong)

/-- 'runriglaw10.StoreEdges': WHATEVER THE INPUT: true; the input reads as it did. -/
def storeEdgesSpec : ChangeSpec := { name := "storeEdges", fn := fun _ => fun
  | [d1, d2] => { results := [.lit (.bool true)], args := [d1, d2] }
  | _ => none }
def storeEdgesRow : OpenClaim := { program := "ytkjajfhgdlhhhaa", sum := "f8b4ebf5792654e0acf66b886926a935deb96a009bbad0a9eb5678934c7771e8", func := "runrig/runriglaw10.StoreEdges", spec := "storeEdges", apart := false }
def StoreEdgesSaid : Prop := storeEdgesRow.holds Try.pinned (OpenSpec.ofChange storeEdgesSpec)

/-- ITS FALSE NEIGHBOUR: 'it returns false'. Refute it at one input. -/
def storeEdgesWrong : ChangeSpec := { name := "storeEdges", fn := fun _ => fun
  | [d1, d2] => { results := [.lit (.bool false)], args := [d1, d2] }
  | _ => none }
def StoreEdgesWrongFalsely : Prop := storeEdgesRow.holds Try.pinned (OpenSpec.ofChange storeEdgesWrong)

/- THE SECOND FORM. 'bulk': how many values and letters a reading holds, each counted each time it is reached (what is shared counts as often as it is met; a slice's spare places count too). A statement '..UptoSaid' is the law's where the arguments, and the package variables that the reading takes, are together of bulk at most 1048576: NARROWER than '..Said'. Prove '..Said' where nothing that the law and all that it calls make is longer than what came in: it says more and counts as full. Else prove '..UptoSaid'. A law counts once. -/
mutual
def uptoBulk {H : Type} : DataW H → Nat
  | .lit (.string bytes) => bytes.length + 1
  | .lit _ => 1
  | .nil => 1
  | .ptr d => uptoBulk d + 1
  | .slice elems spare => uptoBulkAll elems + uptoBulkAll spare + 1
  | .agg parts => uptoBulkAll parts + 1
  | .iface _ d => uptoBulk d + 1
  | .map entries => uptoBulkEntries entries + 1
  | .held _ => 1
def uptoBulkAll {H : Type} : List (DataW H) → Nat
  | [] => 0
  | d :: r => uptoBulk d + uptoBulkAll r
def uptoBulkEntries {H : Type} : List (Lit × DataW H) → Nat
  | [] => 0
  | x :: r => uptoBulkEntry x + uptoBulkEntries r
def uptoBulkEntry {H : Type} : Lit × DataW H → Nat
  | (.string bytes, d) => bytes.length + uptoBulk d + 1
  | (_, d) => uptoBulk d + 1
 end
def uptoSmall : (H : Type) → List (DataW H) → Bool := fun _ ds => decide (uptoBulkAll ds ≤ 1048576)
def OpenSpec.upto (s : _root_.Go.ChangeSpec) : _root_.Go.OpenSpec := { _root_.Go.OpenSpec.ofChange s with cond := some uptoSmall }

/-- 'runriglaw10.StorePlays', WHERE WHAT IT READS IS OF BULK AT MOST 1048576: true; the input reads as it did. -/
def storePlaysUptoRow : OpenClaim := { program := "ytkjajfhgdlhhhaa", sum := "f8b4ebf5792654e0acf66b886926a935deb96a009bbad0a9eb5678934c7771e8", func := "runrig/runriglaw10.StorePlays", spec := "storePlays", apart := false, narrowed := true }
def StorePlaysUptoSaid : Prop := storePlaysUptoRow.holds Try.pinned (OpenSpec.upto storePlaysSpec)

/-- 'runriglaw10.StoreApart', WHERE WHAT IT READS IS OF BULK AT MOST 1048576: true; the input reads as it did. -/
def storeApartUptoRow : OpenClaim := { program := "ytkjajfhgdlhhhaa", sum := "f8b4ebf5792654e0acf66b886926a935deb96a009bbad0a9eb5678934c7771e8", func := "runrig/runriglaw10.StoreApart", spec := "storeApart", apart := false, narrowed := true }
def StoreApartUptoSaid : Prop := storeApartUptoRow.holds Try.pinned (OpenSpec.upto storeApartSpec)

/-- 'runriglaw10.StoreNil', WHERE WHAT IT READS IS OF BULK AT MOST 1048576: true; the input reads as it did. -/
def storeNilUptoRow : OpenClaim := { program := "ytkjajfhgdlhhhaa", sum := "f8b4ebf5792654e0acf66b886926a935deb96a009bbad0a9eb5678934c7771e8", func := "runrig/runriglaw10.StoreNil", spec := "storeNil", apart := false, narrowed := true }
def StoreNilUptoSaid : Prop := storeNilUptoRow.holds Try.pinned (OpenSpec.upto storeNilSpec)

/-- 'runriglaw10.StoreSizes', WHERE WHAT IT READS IS OF BULK AT MOST 1048576: true; the input reads as it did. -/
def storeSizesUptoRow : OpenClaim := { program := "ytkjajfhgdlhhhaa", sum := "f8b4ebf5792654e0acf66b886926a935deb96a009bbad0a9eb5678934c7771e8", func := "runrig/runriglaw10.StoreSizes", spec := "storeSizes", apart := false, narrowed := true }
def StoreSizesUptoSaid : Prop := storeSizesUptoRow.holds Try.pinned (OpenSpec.upto storeSizesSpec)

/-- 'runriglaw10.StoreEdges', WHERE WHAT IT READS IS OF BULK AT MOST 1048576: true; the input reads as it did. -/
def storeEdgesUptoRow : OpenClaim := { program := "ytkjajfhgdlhhhaa", sum := "f8b4ebf5792654e0acf66b886926a935deb96a009bbad0a9eb5678934c7771e8", func := "runrig/runriglaw10.StoreEdges", spec := "storeEdges", apart := false, narrowed := true }
def StoreEdgesUptoSaid : Prop := storeEdgesUptoRow.holds Try.pinned (OpenSpec.upto storeEdgesSpec)

end Rows
end Go.Proofs.Ytkjajfhgdlhhhaa
