/-
  No cell of these rows narrows 'for every input' (looked for: loops, veiled, ifaces, maps, wideKeys, modest, calm, conditions, laid).
  DERIVED. THE GIVEN ROWS OF THIS SEAT. 9 by the template 'for every input the law returns true; each argument reads behind the call as it read before'; 0 by the template 'total and deterministic' (their statements: YtdehemcahangmaaTotals.lean).
  GIVEN WITH THE SEED: the statements are not yours to turn. If you find one false, say at which input.
  Laid BY PROGRAM, IN A SANDBOX (cutbox-rows.mjs): the forced cells as the released guide's own fill.sh prints them over the translation e4cf10db20ae7cb0… (all of the seat's roots in one cut). By AI agents, Wed Nov 11 2026. No macro, syntax, notation, axiom, sorry.
-/
import Derived.Test.YtdehemcahangmaaChecked
import GoSem.Claim
import GoSem.ClaimJoined
import GoSem.ClaimMapViews
import Derived.JoinedTies
import Derived.KernelRfl
namespace Go.Proofs.Ytdehemcahangmaa
/- THE CELL 'sum', in the pinned program and in every row, IS THE sha256 OF THE DUMP (.gsa) THAT YtdehemcahangmaaProg.lean LOADS. Nothing in Lean hashes anything: it is a label: what it is worth is what the hold of that sum in a sandbox is worth. -/
noncomputable def Try.pinned : Pinned := { name := "ytdehemcahangmaa", sum := "e4cf10db20ae7cb0481246f323431fd70c25b6e527b94b5cf9aa1843cb5c3e62", checked := Try.checked }
namespace Rows
def none {H : Type} : Left H := { results := [], args := [] }

/-- 'cooperagelaw2.CrcSums': WHATEVER THE INPUT: true; the input reads as it did. -/
def crcSumsSpec : ChangeSpec := { name := "crcSums", fn := fun _ => fun
  | [d1, d2] => { results := [.lit (.bool true)], args := [d1, d2] }
  | _ => none }
def crcSumsRow : OpenClaim := { program := "ytdehemcahangmaa", sum := "e4cf10db20ae7cb0481246f323431fd70c25b6e527b94b5cf9aa1843cb5c3e62", func := "cooperage/cooperagelaw2.CrcSums", spec := "crcSums", apart := false }
def CrcSumsSaid : Prop := crcSumsRow.holds Try.pinned (OpenSpec.ofChange crcSumsSpec)

/-- ITS FALSE NEIGHBOUR: 'it returns false'. Refute it at one input. -/
def crcSumsWrong : ChangeSpec := { name := "crcSums", fn := fun _ => fun
  | [d1, d2] => { results := [.lit (.bool false)], args := [d1, d2] }
  | _ => none }
def CrcSumsWrongFalsely : Prop := crcSumsRow.holds Try.pinned (OpenSpec.ofChange crcSumsWrong)

/-- 'cooperagelaw2.CrcMore': WHATEVER THE INPUT: true; the input reads as it did. -/
def crcMoreSpec : ChangeSpec := { name := "crcMore", fn := fun _ => fun
  | [d1, d2] => { results := [.lit (.bool true)], args := [d1, d2] }
  | _ => none }
def crcMoreRow : OpenClaim := { program := "ytdehemcahangmaa", sum := "e4cf10db20ae7cb0481246f323431fd70c25b6e527b94b5cf9aa1843cb5c3e62", func := "cooperage/cooperagelaw2.CrcMore", spec := "crcMore", apart := false }
def CrcMoreSaid : Prop := crcMoreRow.holds Try.pinned (OpenSpec.ofChange crcMoreSpec)

/-- ITS FALSE NEIGHBOUR: 'it returns false'. Refute it at one input. -/
def crcMoreWrong : ChangeSpec := { name := "crcMore", fn := fun _ => fun
  | [d1, d2] => { results := [.lit (.bool false)], args := [d1, d2] }
  | _ => none }
def CrcMoreWrongFalsely : Prop := crcMoreRow.holds Try.pinned (OpenSpec.ofChange crcMoreWrong)

/-- 'cooperagelaw2.CrcTurns': WHATEVER THE INPUT: true; the input reads as it did. -/
def crcTurnsSpec : ChangeSpec := { name := "crcTurns", fn := fun _ => fun
  | [d1, d2, d3] => { results := [.lit (.bool true)], args := [d1, d2, d3] }
  | _ => none }
def crcTurnsRow : OpenClaim := { program := "ytdehemcahangmaa", sum := "e4cf10db20ae7cb0481246f323431fd70c25b6e527b94b5cf9aa1843cb5c3e62", func := "cooperage/cooperagelaw2.CrcTurns", spec := "crcTurns", apart := false }
def CrcTurnsSaid : Prop := crcTurnsRow.holds Try.pinned (OpenSpec.ofChange crcTurnsSpec)

/-- ITS FALSE NEIGHBOUR: 'it returns false'. Refute it at one input. -/
def crcTurnsWrong : ChangeSpec := { name := "crcTurns", fn := fun _ => fun
  | [d1, d2, d3] => { results := [.lit (.bool false)], args := [d1, d2, d3] }
  | _ => none }
def CrcTurnsWrongFalsely : Prop := crcTurnsRow.holds Try.pinned (OpenSpec.ofChange crcTurnsWrong)

/-- 'cooperagelaw2.CrcSwaps': WHATEVER THE INPUT: true; the input reads as it did. -/
def crcSwapsSpec : ChangeSpec := { name := "crcSwaps", fn := fun _ => fun
  | [d1, d2] => { results := [.lit (.bool true)], args := [d1, d2] }
  | _ => none }
def crcSwapsRow : OpenClaim := { program := "ytdehemcahangmaa", sum := "e4cf10db20ae7cb0481246f323431fd70c25b6e527b94b5cf9aa1843cb5c3e62", func := "cooperage/cooperagelaw2.CrcSwaps", spec := "crcSwaps", apart := false }
def CrcSwapsSaid : Prop := crcSwapsRow.holds Try.pinned (OpenSpec.ofChange crcSwapsSpec)

/-- ITS FALSE NEIGHBOUR: 'it returns false'. Refute it at one input. -/
def crcSwapsWrong : ChangeSpec := { name := "crcSwaps", fn := fun _ => fun
  | [d1, d2] => { results := [.lit (.bool false)], args := [d1, d2] }
  | _ => none }
def CrcSwapsWrongFalsely : Prop := crcSwapsRow.holds Try.pinned (OpenSpec.ofChange crcSwapsWrong)

/-- 'cooperagelaw1.VarintFolds': WHATEVER THE INPUT: true; the input reads as it did. -/
def varintFoldsSpec : ChangeSpec := { name := "varintFolds", fn := fun _ => fun
  | [d1, d2] => { results := [.lit (.bool true)], args := [d1, d2] }
  | _ => none }
def varintFoldsRow : OpenClaim := { program := "ytdehemcahangmaa", sum := "e4cf10db20ae7cb0481246f323431fd70c25b6e527b94b5cf9aa1843cb5c3e62", func := "cooperage/cooperagelaw1.VarintFolds", spec := "varintFolds", apart := false }
def VarintFoldsSaid : Prop := varintFoldsRow.holds Try.pinned (OpenSpec.ofChange varintFoldsSpec)

/-- ITS FALSE NEIGHBOUR: 'it returns false'. Refute it at one input. -/
def varintFoldsWrong : ChangeSpec := { name := "varintFolds", fn := fun _ => fun
  | [d1, d2] => { results := [.lit (.bool false)], args := [d1, d2] }
  | _ => none }
def VarintFoldsWrongFalsely : Prop := varintFoldsRow.holds Try.pinned (OpenSpec.ofChange varintFoldsWrong)

/-- 'cooperagelaw1.VarintPuts': WHATEVER THE INPUT: true; the input reads as it did. -/
def varintPutsSpec : ChangeSpec := { name := "varintPuts", fn := fun _ => fun
  | [d1, d2, d3] => { results := [.lit (.bool true)], args := [d1, d2, d3] }
  | _ => none }
def varintPutsRow : OpenClaim := { program := "ytdehemcahangmaa", sum := "e4cf10db20ae7cb0481246f323431fd70c25b6e527b94b5cf9aa1843cb5c3e62", func := "cooperage/cooperagelaw1.VarintPuts", spec := "varintPuts", apart := false }
def VarintPutsSaid : Prop := varintPutsRow.holds Try.pinned (OpenSpec.ofChange varintPutsSpec)

/-- ITS FALSE NEIGHBOUR: 'it returns false'. Refute it at one input. -/
def varintPutsWrong : ChangeSpec := { name := "varintPuts", fn := fun _ => fun
  | [d1, d2, d3] => { results := [.lit (.bool false)], args := [d1, d2, d3] }
  | _ => none }
def VarintPutsWrongFalsely : Prop := varintPutsRow.holds Try.pinned (OpenSpec.ofChange varintPutsWrong)

/-- 'cooperagelaw1.VarintGets': WHATEVER THE INPUT: true; the input reads as it did. -/
def varintGetsSpec : ChangeSpec := { name := "varintGets", fn := fun _ => fun
  | [d] => { results := [.lit (.bool true)], args := [d] }
  | _ => none }
def varintGetsRow : OpenClaim := { program := "ytdehemcahangmaa", sum := "e4cf10db20ae7cb0481246f323431fd70c25b6e527b94b5cf9aa1843cb5c3e62", func := "cooperage/cooperagelaw1.VarintGets", spec := "varintGets", apart := false }
def VarintGetsSaid : Prop := varintGetsRow.holds Try.pinned (OpenSpec.ofChange varintGetsSpec)

/-- ITS FALSE NEIGHBOUR: 'it returns false'. Refute it at one input. -/
def varintGetsWrong : ChangeSpec := { name := "varintGets", fn := fun _ => fun
  | [d] => { results := [.lit (.bool false)], args := [d] }
  | _ => none }
def VarintGetsWrongFalsely : Prop := varintGetsRow.holds Try.pinned (OpenSpec.ofChange varintGetsWrong)

/-- 'cooperagelaw1.VarintLong': WHATEVER THE INPUT: true; the input reads as it did. -/
def varintLongSpec : ChangeSpec := { name := "varintLong", fn := fun _ => fun
  | [d] => { results := [.lit (.bool true)], args := [d] }
  | _ => none }
def varintLongRow : OpenClaim := { program := "ytdehemcahangmaa", sum := "e4cf10db20ae7cb0481246f323431fd70c25b6e527b94b5cf9aa1843cb5c3e62", func := "cooperage/cooperagelaw1.VarintLong", spec := "varintLong", apart := false }
def VarintLongSaid : Prop := varintLongRow.holds Try.pinned (OpenSpec.ofChange varintLongSpec)

/-- ITS FALSE NEIGHBOUR: 'it returns false'. Refute it at one input. -/
def varintLongWrong : ChangeSpec := { name := "varintLong", fn := fun _ => fun
  | [d] => { results := [.lit (.bool false)], args := [d] }
  | _ => none }
def VarintLongWrongFalsely : Prop := varintLongRow.holds Try.pinned (OpenSpec.ofChange varintLongWrong)

/-- 'cooperagelaw1.VarintRow': WHATEVER THE INPUT: true; the input reads as it did. -/
def varintRowSpec : ChangeSpec := { name := "varintRow", fn := fun _ => fun
  | [d] => { results := [.lit (.bool true)], args := [d] }
  | _ => none }
def varintRowRow : OpenClaim := { program := "ytdehemcahangmaa", sum := "e4cf10db20ae7cb0481246f323431fd70c25b6e527b94b5cf9aa1843cb5c3e62", func := "cooperage/cooperagelaw1.VarintRow", spec := "varintRow", apart := false }
def VarintRowSaid : Prop := varintRowRow.holds Try.pinned (OpenSpec.ofChange varintRowSpec)

/-- ITS FALSE NEIGHBOUR: 'it returns false'. Refute it at one input. -/
def varintRowWrong : ChangeSpec := { name := "varintRow", fn := fun _ => fun
  | [d] => { results := [.lit (.bool false)], args := [d] }
  | _ => none }
def VarintRowWrongFalsely : Prop := varintRowRow.holds Try.pinned (OpenSpec.ofChange varintRowWrong)

/- THE SECOND FORM. 'bulk': how many values and letters a reading holds, each counted each time it is reached (what is shared counts as often as it is met; a slice's spare places count too). A statement '..UptoSaid' is the law's where the arguments, and the package variables that the reading takes, are together of bulk at most 1048576: NARROWER than '..Said'. Prove '..Said' where nothing that the law and all that it calls make is longer than what came in: it says more and counts as full. Else prove '..UptoSaid'. A law counts once. -/
mutual
def uptoBulk {H : Type} : DataW H → Nat
  | .lit (.string bytes) => bytes.length + 1
  | .lit _ => 1
  | .nil => 1
  | .ptr d => uptoBulk d + 1
  | .slice elems spare => uptoBulkAll elems + uptoBulkAll spare + 1
  | .agg parts => uptoBulkAll parts + 1
  | .iface _ d => uptoBulk d + 1
  | .map entries => uptoBulkEntries entries + 1
  | .held _ => 1
def uptoBulkAll {H : Type} : List (DataW H) → Nat
  | [] => 0
  | d :: r => uptoBulk d + uptoBulkAll r
def uptoBulkEntries {H : Type} : List (Lit × DataW H) → Nat
  | [] => 0
  | x :: r => uptoBulkEntry x + uptoBulkEntries r
def uptoBulkEntry {H : Type} : Lit × DataW H → Nat
  | (.string bytes, d) => bytes.length + uptoBulk d + 1
  | (_, d) => uptoBulk d + 1
 end
def uptoSmall : (H : Type) → List (DataW H) → Bool := fun _ ds => decide (uptoBulkAll ds ≤ 1048576)
def OpenSpec.upto (s : _root_.Go.ChangeSpec) : _root_.Go.OpenSpec := { _root_.Go.OpenSpec.ofChange s with cond := some uptoSmall }

/-- 'cooperagelaw2.CrcSums', WHERE WHAT IT READS IS OF BULK AT MOST 1048576: true; the input reads as it did. -/
def crcSumsUptoRow : OpenClaim := { program := "ytdehemcahangmaa", sum := "e4cf10db20ae7cb0481246f323431fd70c25b6e527b94b5cf9aa1843cb5c3e62", func := "cooperage/cooperagelaw2.CrcSums", spec := "crcSums", apart := false, narrowed := true }
def CrcSumsUptoSaid : Prop := crcSumsUptoRow.holds Try.pinned (OpenSpec.upto crcSumsSpec)

/-- 'cooperagelaw2.CrcMore', WHERE WHAT IT READS IS OF BULK AT MOST 1048576: true; the input reads as it did. -/
def crcMoreUptoRow : OpenClaim := { program := "ytdehemcahangmaa", sum := "e4cf10db20ae7cb0481246f323431fd70c25b6e527b94b5cf9aa1843cb5c3e62", func := "cooperage/cooperagelaw2.CrcMore", spec := "crcMore", apart := false, narrowed := true }
def CrcMoreUptoSaid : Prop := crcMoreUptoRow.holds Try.pinned (OpenSpec.upto crcMoreSpec)

/-- 'cooperagelaw2.CrcTurns', WHERE WHAT IT READS IS OF BULK AT MOST 1048576: true; the input reads as it did. -/
def crcTurnsUptoRow : OpenClaim := { program := "ytdehemcahangmaa", sum := "e4cf10db20ae7cb0481246f323431fd70c25b6e527b94b5cf9aa1843cb5c3e62", func := "cooperage/cooperagelaw2.CrcTurns", spec := "crcTurns", apart := false, narrowed := true }
def CrcTurnsUptoSaid : Prop := crcTurnsUptoRow.holds Try.pinned (OpenSpec.upto crcTurnsSpec)

/-- 'cooperagelaw2.CrcSwaps', WHERE WHAT IT READS IS OF BULK AT MOST 1048576: true; the input reads as it did. -/
def crcSwapsUptoRow : OpenClaim := { program := "ytdehemcahangmaa", sum := "e4cf10db20ae7cb0481246f323431fd70c25b6e527b94b5cf9aa1843cb5c3e62", func := "cooperage/cooperagelaw2.CrcSwaps", spec := "crcSwaps", apart := false, narrowed := true }
def CrcSwapsUptoSaid : Prop := crcSwapsUptoRow.holds Try.pinned (OpenSpec.upto crcSwapsSpec)

/-- 'cooperagelaw1.VarintFolds', WHERE WHAT IT READS IS OF BULK AT MOST 1048576: true; the input reads as it did. -/
def varintFoldsUptoRow : OpenClaim := { program := "ytdehemcahangmaa", sum := "e4cf10db20ae7cb0481246f323431fd70c25b6e527b94b5cf9aa1843cb5c3e62", func := "cooperage/cooperagelaw1.VarintFolds", spec := "varintFolds", apart := false, narrowed := true }
def VarintFoldsUptoSaid : Prop := varintFoldsUptoRow.holds Try.pinned (OpenSpec.upto varintFoldsSpec)

/-- 'cooperagelaw1.VarintPuts', WHERE WHAT IT READS IS OF BULK AT MOST 1048576: true; the input reads as it did. -/
def varintPutsUptoRow : OpenClaim := { program := "ytdehemcahangmaa", sum := "e4cf10db20ae7cb0481246f323431fd70c25b6e527b94b5cf9aa1843cb5c3e62", func := "cooperage/cooperagelaw1.VarintPuts", spec := "varintPuts", apart := false, narrowed := true }
def VarintPutsUptoSaid : Prop := varintPutsUptoRow.holds Try.pinned (OpenSpec.upto varintPutsSpec)

/-- 'cooperagelaw1.VarintGets', WHERE WHAT IT READS IS OF BULK AT MOST 1048576: true; the input reads as it did. -/
def varintGetsUptoRow : OpenClaim := { program := "ytdehemcahangmaa", sum := "e4cf10db20ae7cb0481246f323431fd70c25b6e527b94b5cf9aa1843cb5c3e62", func := "cooperage/cooperagelaw1.VarintGets", spec := "varintGets", apart := false, narrowed := true }
def VarintGetsUptoSaid : Prop := varintGetsUptoRow.holds Try.pinned (OpenSpec.upto varintGetsSpec)

/-- 'cooperagelaw1.VarintLong', WHERE WHAT IT READS IS OF BULK AT MOST 1048576: true; the input reads as it did. -/
def varintLongUptoRow : OpenClaim := { program := "ytdehemcahangmaa", sum := "e4cf10db20ae7cb0481246f323431fd70c25b6e527b94b5cf9aa1843cb5c3e62", func := "cooperage/cooperagelaw1.VarintLong", spec := "varintLong", apart := false, narrowed := true }
def VarintLongUptoSaid : Prop := varintLongUptoRow.holds Try.pinned (OpenSpec.upto varintLongSpec)

/-- 'cooperagelaw1.VarintRow', WHERE WHAT IT READS IS OF BULK AT MOST 1048576: true; the input reads as it did. -/
def varintRowUptoRow : OpenClaim := { program := "ytdehemcahangmaa", sum := "e4cf10db20ae7cb0481246f323431fd70c25b6e527b94b5cf9aa1843cb5c3e62", func := "cooperage/cooperagelaw1.VarintRow", spec := "varintRow", apart := false, narrowed := true }
def VarintRowUptoSaid : Prop := varintRowUptoRow.holds Try.pinned (OpenSpec.upto varintRowSpec)

end Rows
end Go.Proofs.Ytdehemcahangmaa
