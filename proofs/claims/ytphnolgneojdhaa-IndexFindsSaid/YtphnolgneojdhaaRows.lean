/-
  No cell of these rows narrows 'for every input' (looked for: loops, veiled, ifaces, maps, wideKeys, modest, calm, conditions, laid).
  DERIVED. THE GIVEN ROWS OF THIS SEAT. 8 by the template 'for every input the law returns true; each argument reads behind the call as it read before'; 0 by the template 'total and deterministic' (their statements: YtphnolgneojdhaaTotals.lean).
  GIVEN WITH THE SEED: the statements are not yours to turn. If you find one false, say at which input.
  Laid BY PROGRAM, IN A SANDBOX (cutbox-rows.mjs): the forced cells as the released guide's own fill.sh prints them over the translation d00f8f211421532c… (all of the seat's roots in one cut). By AI agents, Wed Nov 11 2026. No macro, syntax, notation, axiom, sorry.
-/
import Derived.Test.YtphnolgneojdhaaChecked
import GoSem.Claim
import GoSem.ClaimJoined
import GoSem.ClaimMapViews
import Derived.JoinedTies
import Derived.KernelRfl
namespace Go.Proofs.Ytphnolgneojdhaa
/- THE CELL 'sum', in the pinned program and in every row, IS THE sha256 OF THE DUMP (.gsa) THAT YtphnolgneojdhaaProg.lean LOADS. Nothing in Lean hashes anything: it is a label: what it is worth is what the hold of that sum in a sandbox is worth. -/
noncomputable def Try.pinned : Pinned := { name := "ytphnolgneojdhaa", sum := "d00f8f211421532c43caa18e9fb3252b60c467073143dc4385db3108789afafc", checked := Try.checked }
namespace Rows
def none {H : Type} : Left H := { results := [], args := [] }

/-- 'cooperagelaw9.IndexMakes': WHATEVER THE INPUT: true; the input reads as it did. -/
def indexMakesSpec : ChangeSpec := { name := "indexMakes", fn := fun _ => fun
  | [d1, d2] => { results := [.lit (.bool true)], args := [d1, d2] }
  | _ => none }
def indexMakesRow : OpenClaim := { program := "ytphnolgneojdhaa", sum := "d00f8f211421532c43caa18e9fb3252b60c467073143dc4385db3108789afafc", func := "cooperage/cooperagelaw9.IndexMakes", spec := "indexMakes", apart := false }
def IndexMakesSaid : Prop := indexMakesRow.holds Try.pinned (OpenSpec.ofChange indexMakesSpec)

/-- ITS FALSE NEIGHBOUR: 'it returns false'. Refute it at one input. -/
def indexMakesWrong : ChangeSpec := { name := "indexMakes", fn := fun _ => fun
  | [d1, d2] => { results := [.lit (.bool false)], args := [d1, d2] }
  | _ => none }
def IndexMakesWrongFalsely : Prop := indexMakesRow.holds Try.pinned (OpenSpec.ofChange indexMakesWrong)

/-- 'cooperagelaw9.IndexFew': WHATEVER THE INPUT: true; the input reads as it did. -/
def indexFewSpec : ChangeSpec := { name := "indexFew", fn := fun _ => fun
  | [d1, d2] => { results := [.lit (.bool true)], args := [d1, d2] }
  | _ => none }
def indexFewRow : OpenClaim := { program := "ytphnolgneojdhaa", sum := "d00f8f211421532c43caa18e9fb3252b60c467073143dc4385db3108789afafc", func := "cooperage/cooperagelaw9.IndexFew", spec := "indexFew", apart := false }
def IndexFewSaid : Prop := indexFewRow.holds Try.pinned (OpenSpec.ofChange indexFewSpec)

/-- ITS FALSE NEIGHBOUR: 'it returns false'. Refute it at one input. -/
def indexFewWrong : ChangeSpec := { name := "indexFew", fn := fun _ => fun
  | [d1, d2] => { results := [.lit (.bool false)], args := [d1, d2] }
  | _ => none }
def IndexFewWrongFalsely : Prop := indexFewRow.holds Try.pinned (OpenSpec.ofChange indexFewWrong)

/-- 'cooperagelaw8.SegmentTorn': WHATEVER THE INPUT: true; the input reads as it did. -/
def segmentTornSpec : ChangeSpec := { name := "segmentTorn", fn := fun _ => fun
  | [d1, d2] => { results := [.lit (.bool true)], args := [d1, d2] }
  | _ => none }
def segmentTornRow : OpenClaim := { program := "ytphnolgneojdhaa", sum := "d00f8f211421532c43caa18e9fb3252b60c467073143dc4385db3108789afafc", func := "cooperage/cooperagelaw8.SegmentTorn", spec := "segmentTorn", apart := false }
def SegmentTornSaid : Prop := segmentTornRow.holds Try.pinned (OpenSpec.ofChange segmentTornSpec)

/-- ITS FALSE NEIGHBOUR: 'it returns false'. Refute it at one input. -/
def segmentTornWrong : ChangeSpec := { name := "segmentTorn", fn := fun _ => fun
  | [d1, d2] => { results := [.lit (.bool false)], args := [d1, d2] }
  | _ => none }
def SegmentTornWrongFalsely : Prop := segmentTornRow.holds Try.pinned (OpenSpec.ofChange segmentTornWrong)

/-- 'cooperagelaw8.SegmentScans': WHATEVER THE INPUT: true; the input reads as it did. -/
def segmentScansSpec : ChangeSpec := { name := "segmentScans", fn := fun _ => fun
  | [d] => { results := [.lit (.bool true)], args := [d] }
  | _ => none }
def segmentScansRow : OpenClaim := { program := "ytphnolgneojdhaa", sum := "d00f8f211421532c43caa18e9fb3252b60c467073143dc4385db3108789afafc", func := "cooperage/cooperagelaw8.SegmentScans", spec := "segmentScans", apart := false }
def SegmentScansSaid : Prop := segmentScansRow.holds Try.pinned (OpenSpec.ofChange segmentScansSpec)

/-- ITS FALSE NEIGHBOUR: 'it returns false'. Refute it at one input. -/
def segmentScansWrong : ChangeSpec := { name := "segmentScans", fn := fun _ => fun
  | [d] => { results := [.lit (.bool false)], args := [d] }
  | _ => none }
def SegmentScansWrongFalsely : Prop := segmentScansRow.holds Try.pinned (OpenSpec.ofChange segmentScansWrong)

/-- 'cooperagelaw8.SegmentBytes': WHATEVER THE INPUT: true; the input reads as it did. -/
def segmentBytesSpec : ChangeSpec := { name := "segmentBytes", fn := fun _ => fun
  | [d1, d2, d3] => { results := [.lit (.bool true)], args := [d1, d2, d3] }
  | _ => none }
def segmentBytesRow : OpenClaim := { program := "ytphnolgneojdhaa", sum := "d00f8f211421532c43caa18e9fb3252b60c467073143dc4385db3108789afafc", func := "cooperage/cooperagelaw8.SegmentBytes", spec := "segmentBytes", apart := false }
def SegmentBytesSaid : Prop := segmentBytesRow.holds Try.pinned (OpenSpec.ofChange segmentBytesSpec)

/-- ITS FALSE NEIGHBOUR: 'it returns false'. Refute it at one input. -/
def segmentBytesWrong : ChangeSpec := { name := "segmentBytes", fn := fun _ => fun
  | [d1, d2, d3] => { results := [.lit (.bool false)], args := [d1, d2, d3] }
  | _ => none }
def SegmentBytesWrongFalsely : Prop := segmentBytesRow.holds Try.pinned (OpenSpec.ofChange segmentBytesWrong)

/-- 'cooperagelaw8.SegmentFrom': WHATEVER THE INPUT: true; the input reads as it did. -/
def segmentFromSpec : ChangeSpec := { name := "segmentFrom", fn := fun _ => fun
  | [d1, d2, d3] => { results := [.lit (.bool true)], args := [d1, d2, d3] }
  | _ => none }
def segmentFromRow : OpenClaim := { program := "ytphnolgneojdhaa", sum := "d00f8f211421532c43caa18e9fb3252b60c467073143dc4385db3108789afafc", func := "cooperage/cooperagelaw8.SegmentFrom", spec := "segmentFrom", apart := false }
def SegmentFromSaid : Prop := segmentFromRow.holds Try.pinned (OpenSpec.ofChange segmentFromSpec)

/-- ITS FALSE NEIGHBOUR: 'it returns false'. Refute it at one input. -/
def segmentFromWrong : ChangeSpec := { name := "segmentFrom", fn := fun _ => fun
  | [d1, d2, d3] => { results := [.lit (.bool false)], args := [d1, d2, d3] }
  | _ => none }
def SegmentFromWrongFalsely : Prop := segmentFromRow.holds Try.pinned (OpenSpec.ofChange segmentFromWrong)

/-- 'cooperagelaw9.IndexSeeks': WHATEVER THE INPUT: true; the input reads as it did. -/
def indexSeeksSpec : ChangeSpec := { name := "indexSeeks", fn := fun _ => fun
  | [d1, d2, d3] => { results := [.lit (.bool true)], args := [d1, d2, d3] }
  | _ => none }
def indexSeeksRow : OpenClaim := { program := "ytphnolgneojdhaa", sum := "d00f8f211421532c43caa18e9fb3252b60c467073143dc4385db3108789afafc", func := "cooperage/cooperagelaw9.IndexSeeks", spec := "indexSeeks", unfollowed := true, recurses := true, apart := false }
def IndexSeeksSaid : Prop := indexSeeksRow.holds Try.pinned (OpenSpec.ofChange indexSeeksSpec)

/-- ITS FALSE NEIGHBOUR: 'it returns false'. Refute it at one input. -/
def indexSeeksWrong : ChangeSpec := { name := "indexSeeks", fn := fun _ => fun
  | [d1, d2, d3] => { results := [.lit (.bool false)], args := [d1, d2, d3] }
  | _ => none }
def IndexSeeksWrongFalsely : Prop := indexSeeksRow.holds Try.pinned (OpenSpec.ofChange indexSeeksWrong)

/-- 'cooperagelaw9.IndexFinds': WHATEVER THE INPUT: true; the input reads as it did. -/
def indexFindsSpec : ChangeSpec := { name := "indexFinds", fn := fun _ => fun
  | [d1, d2, d3, d4] => { results := [.lit (.bool true)], args := [d1, d2, d3, d4] }
  | _ => none }
def indexFindsRow : OpenClaim := { program := "ytphnolgneojdhaa", sum := "d00f8f211421532c43caa18e9fb3252b60c467073143dc4385db3108789afafc", func := "cooperage/cooperagelaw9.IndexFinds", spec := "indexFinds", unfollowed := true, recurses := true, apart := false }
def IndexFindsSaid : Prop := indexFindsRow.holds Try.pinned (OpenSpec.ofChange indexFindsSpec)

/-- ITS FALSE NEIGHBOUR: 'it returns false'. Refute it at one input. -/
def indexFindsWrong : ChangeSpec := { name := "indexFinds", fn := fun _ => fun
  | [d1, d2, d3, d4] => { results := [.lit (.bool false)], args := [d1, d2, d3, d4] }
  | _ => none }
def IndexFindsWrongFalsely : Prop := indexFindsRow.holds Try.pinned (OpenSpec.ofChange indexFindsWrong)

/- THE SECOND FORM. 'bulk': how many values and letters a reading holds, each counted each time it is reached (what is shared counts as often as it is met; a slice's spare places count too). A statement '..UptoSaid' is the law's where the arguments, and the package variables that the reading takes, are together of bulk at most 1048576: NARROWER than '..Said'. Prove '..Said' where nothing that the law and all that it calls make is longer than what came in: it says more and counts as full. Else prove '..UptoSaid'. A law counts once. -/
mutual
def uptoBulk {H : Type} : DataW H → Nat
  | .lit (.string bytes) => bytes.length + 1
  | .lit _ => 1
  | .nil => 1
  | .ptr d => uptoBulk d + 1
  | .slice elems spare => uptoBulkAll elems + uptoBulkAll spare + 1
  | .agg parts => uptoBulkAll parts + 1
  | .iface _ d => uptoBulk d + 1
  | .map entries => uptoBulkEntries entries + 1
  | .held _ => 1
def uptoBulkAll {H : Type} : List (DataW H) → Nat
  | [] => 0
  | d :: r => uptoBulk d + uptoBulkAll r
def uptoBulkEntries {H : Type} : List (Lit × DataW H) → Nat
  | [] => 0
  | x :: r => uptoBulkEntry x + uptoBulkEntries r
def uptoBulkEntry {H : Type} : Lit × DataW H → Nat
  | (.string bytes, d) => bytes.length + uptoBulk d + 1
  | (_, d) => uptoBulk d + 1
 end
def uptoSmall : (H : Type) → List (DataW H) → Bool := fun _ ds => decide (uptoBulkAll ds ≤ 1048576)
def OpenSpec.upto (s : _root_.Go.ChangeSpec) : _root_.Go.OpenSpec := { _root_.Go.OpenSpec.ofChange s with cond := some uptoSmall }

/-- 'cooperagelaw9.IndexMakes', WHERE WHAT IT READS IS OF BULK AT MOST 1048576: true; the input reads as it did. -/
def indexMakesUptoRow : OpenClaim := { program := "ytphnolgneojdhaa", sum := "d00f8f211421532c43caa18e9fb3252b60c467073143dc4385db3108789afafc", func := "cooperage/cooperagelaw9.IndexMakes", spec := "indexMakes", apart := false, narrowed := true }
def IndexMakesUptoSaid : Prop := indexMakesUptoRow.holds Try.pinned (OpenSpec.upto indexMakesSpec)

/-- 'cooperagelaw9.IndexFew', WHERE WHAT IT READS IS OF BULK AT MOST 1048576: true; the input reads as it did. -/
def indexFewUptoRow : OpenClaim := { program := "ytphnolgneojdhaa", sum := "d00f8f211421532c43caa18e9fb3252b60c467073143dc4385db3108789afafc", func := "cooperage/cooperagelaw9.IndexFew", spec := "indexFew", apart := false, narrowed := true }
def IndexFewUptoSaid : Prop := indexFewUptoRow.holds Try.pinned (OpenSpec.upto indexFewSpec)

/-- 'cooperagelaw8.SegmentTorn', WHERE WHAT IT READS IS OF BULK AT MOST 1048576: true; the input reads as it did. -/
def segmentTornUptoRow : OpenClaim := { program := "ytphnolgneojdhaa", sum := "d00f8f211421532c43caa18e9fb3252b60c467073143dc4385db3108789afafc", func := "cooperage/cooperagelaw8.SegmentTorn", spec := "segmentTorn", apart := false, narrowed := true }
def SegmentTornUptoSaid : Prop := segmentTornUptoRow.holds Try.pinned (OpenSpec.upto segmentTornSpec)

/-- 'cooperagelaw8.SegmentScans', WHERE WHAT IT READS IS OF BULK AT MOST 1048576: true; the input reads as it did. -/
def segmentScansUptoRow : OpenClaim := { program := "ytphnolgneojdhaa", sum := "d00f8f211421532c43caa18e9fb3252b60c467073143dc4385db3108789afafc", func := "cooperage/cooperagelaw8.SegmentScans", spec := "segmentScans", apart := false, narrowed := true }
def SegmentScansUptoSaid : Prop := segmentScansUptoRow.holds Try.pinned (OpenSpec.upto segmentScansSpec)

/-- 'cooperagelaw8.SegmentBytes', WHERE WHAT IT READS IS OF BULK AT MOST 1048576: true; the input reads as it did. -/
def segmentBytesUptoRow : OpenClaim := { program := "ytphnolgneojdhaa", sum := "d00f8f211421532c43caa18e9fb3252b60c467073143dc4385db3108789afafc", func := "cooperage/cooperagelaw8.SegmentBytes", spec := "segmentBytes", apart := false, narrowed := true }
def SegmentBytesUptoSaid : Prop := segmentBytesUptoRow.holds Try.pinned (OpenSpec.upto segmentBytesSpec)

/-- 'cooperagelaw8.SegmentFrom', WHERE WHAT IT READS IS OF BULK AT MOST 1048576: true; the input reads as it did. -/
def segmentFromUptoRow : OpenClaim := { program := "ytphnolgneojdhaa", sum := "d00f8f211421532c43caa18e9fb3252b60c467073143dc4385db3108789afafc", func := "cooperage/cooperagelaw8.SegmentFrom", spec := "segmentFrom", apart := false, narrowed := true }
def SegmentFromUptoSaid : Prop := segmentFromUptoRow.holds Try.pinned (OpenSpec.upto segmentFromSpec)

/-- 'cooperagelaw9.IndexSeeks', WHERE WHAT IT READS IS OF BULK AT MOST 1048576: true; the input reads as it did. -/
def indexSeeksUptoRow : OpenClaim := { program := "ytphnolgneojdhaa", sum := "d00f8f211421532c43caa18e9fb3252b60c467073143dc4385db3108789afafc", func := "cooperage/cooperagelaw9.IndexSeeks", spec := "indexSeeks", unfollowed := true, recurses := true, apart := false, narrowed := true }
def IndexSeeksUptoSaid : Prop := indexSeeksUptoRow.holds Try.pinned (OpenSpec.upto indexSeeksSpec)

/-- 'cooperagelaw9.IndexFinds', WHERE WHAT IT READS IS OF BULK AT MOST 1048576: true; the input reads as it did. -/
def indexFindsUptoRow : OpenClaim := { program := "ytphnolgneojdhaa", sum := "d00f8f211421532c43caa18e9fb3252b60c467073143dc4385db3108789afafc", func := "cooperage/cooperagelaw9.IndexFinds", spec := "indexFinds", unfollowed := true, recurses := true, apart := false, narrowed := true }
def IndexFindsUptoSaid : Prop := indexFindsUptoRow.holds Try.pinned (OpenSpec.upto indexFindsSpec)

end Rows
end Go.Proofs.Ytphnolgneojdhaa
