/-
  No cell of these rows narrows 'for every input' (looked for: loops, veiled, ifaces, maps, wideKeys, modest, calm, conditions, laid).
  DERIVED. THE GIVEN ROWS OF THIS SEAT. 16 by the template 'for every input the law returns true; each argument reads behind the call as it read before'; 0 by the template 'total and deterministic' (their statements: YthgeodagikmpjaaTotals.lean).
  GIVEN WITH THE SEED: the statements are not yours to turn. If you find one false, say at which input.
  Laid BY PROGRAM, IN A SANDBOX (cutbox-rows.mjs): the forced cells as the released guide's own fill.sh prints them over the translation 53220ea1acc66585… (all of the seat's roots in one cut). By AI agents, Wed Nov 11 2026. No macro, syntax, notation, axiom, sorry.
-/
import Derived.Test.YthgeodagikmpjaaChecked
import GoSem.Claim
import GoSem.ClaimJoined
import GoSem.ClaimMapViews
import Derived.JoinedTies
import Derived.KernelRfl
namespace Go.Proofs.Ythgeodagikmpjaa
/- THE CELL 'sum', in the pinned program and in every row, IS THE sha256 OF THE DUMP (.gsa) THAT YthgeodagikmpjaaProg.lean LOADS. Nothing in Lean hashes anything: it is a label: what it is worth is what the hold of that sum in a sandbox is worth. -/
noncomputable def Try.pinned : Pinned := { name := "ythgeodagikmpjaa", sum := "53220ea1acc66585a17acaa4f8f03c3bd8eb8af26ca447dbd5853c27a0c98ab8", checked := Try.checked }
namespace Rows
def none {H : Type} : Left H := { results := [], args := [] }

/-- 'skylightlaw01.VarintTells': WHATEVER THE INPUT: true; the input reads as it did. -/
def varintTellsSpec : ChangeSpec := { name := "varintTells", fn := fun _ => fun
  | [d1, d2] => { results := [.lit (.bool true)], args := [d1, d2] }
  | _ => none }
def varintTellsRow : OpenClaim := { program := "ythgeodagikmpjaa", sum := "53220ea1acc66585a17acaa4f8f03c3bd8eb8af26ca447dbd5853c27a0c98ab8", func := "skylight/skylightlaw01.VarintTells", spec := "varintTells", unfollowed := true, recurses := true, apart := false }
def VarintTellsSaid : Prop := varintTellsRow.holds Try.pinned (OpenSpec.ofChange varintTellsSpec)

/-- ITS FALSE NEIGHBOUR: 'it returns false'. Refute it at one input. -/
def varintTellsWrong : ChangeSpec := { name := "varintTells", fn := fun _ => fun
  | [d1, d2] => { results := [.lit (.bool false)], args := [d1, d2] }
  | _ => none }
def VarintTellsWrongFalsely : Prop := varintTellsRow.holds Try.pinned (OpenSpec.ofChange varintTellsWrong)

/-- 'skylightlaw01.VarintBack': WHATEVER THE INPUT: true; the input reads as it did. -/
def varintBackSpec : ChangeSpec := { name := "varintBack", fn := fun _ => fun
  | [d1, d2, d3] => { results := [.lit (.bool true)], args := [d1, d2, d3] }
  | _ => none }
def varintBackRow : OpenClaim := { program := "ythgeodagikmpjaa", sum := "53220ea1acc66585a17acaa4f8f03c3bd8eb8af26ca447dbd5853c27a0c98ab8", func := "skylight/skylightlaw01.VarintBack", spec := "varintBack", unfollowed := true, recurses := true, apart := false }
def VarintBackSaid : Prop := varintBackRow.holds Try.pinned (OpenSpec.ofChange varintBackSpec)

/-- ITS FALSE NEIGHBOUR: 'it returns false'. Refute it at one input. -/
def varintBackWrong : ChangeSpec := { name := "varintBack", fn := fun _ => fun
  | [d1, d2, d3] => { results := [.lit (.bool false)], args := [d1, d2, d3] }
  | _ => none }
def VarintBackWrongFalsely : Prop := varintBackRow.holds Try.pinned (OpenSpec.ofChange varintBackWrong)

/-- 'skylightlaw01.VarintOne': WHATEVER THE INPUT: true; the input reads as it did. -/
def varintOneSpec : ChangeSpec := { name := "varintOne", fn := fun _ => fun
  | [d1, d2, d3] => { results := [.lit (.bool true)], args := [d1, d2, d3] }
  | _ => none }
def varintOneRow : OpenClaim := { program := "ythgeodagikmpjaa", sum := "53220ea1acc66585a17acaa4f8f03c3bd8eb8af26ca447dbd5853c27a0c98ab8", func := "skylight/skylightlaw01.VarintOne", spec := "varintOne", unfollowed := true, recurses := true, apart := false }
def VarintOneSaid : Prop := varintOneRow.holds Try.pinned (OpenSpec.ofChange varintOneSpec)

/-- ITS FALSE NEIGHBOUR: 'it returns false'. Refute it at one input. -/
def varintOneWrong : ChangeSpec := { name := "varintOne", fn := fun _ => fun
  | [d1, d2, d3] => { results := [.lit (.bool false)], args := [d1, d2, d3] }
  | _ => none }
def VarintOneWrongFalsely : Prop := varintOneRow.holds Try.pinned (OpenSpec.ofChange varintOneWrong)

/-- 'skylightlaw01.VarintLess': WHATEVER THE INPUT: true; the input reads as it did. -/
def varintLessSpec : ChangeSpec := { name := "varintLess", fn := fun _ => fun
  | [d1, d2] => { results := [.lit (.bool true)], args := [d1, d2] }
  | _ => none }
def varintLessRow : OpenClaim := { program := "ythgeodagikmpjaa", sum := "53220ea1acc66585a17acaa4f8f03c3bd8eb8af26ca447dbd5853c27a0c98ab8", func := "skylight/skylightlaw01.VarintLess", spec := "varintLess", unfollowed := true, recurses := true, apart := false }
def VarintLessSaid : Prop := varintLessRow.holds Try.pinned (OpenSpec.ofChange varintLessSpec)

/-- ITS FALSE NEIGHBOUR: 'it returns false'. Refute it at one input. -/
def varintLessWrong : ChangeSpec := { name := "varintLess", fn := fun _ => fun
  | [d1, d2] => { results := [.lit (.bool false)], args := [d1, d2] }
  | _ => none }
def VarintLessWrongFalsely : Prop := varintLessRow.holds Try.pinned (OpenSpec.ofChange varintLessWrong)

/-- 'skylightlaw01.VarintBytes': WHATEVER THE INPUT: true; the input reads as it did. -/
def varintBytesSpec : ChangeSpec := { name := "varintBytes", fn := fun _ => fun
  | [d] => { results := [.lit (.bool true)], args := [d] }
  | _ => none }
def varintBytesRow : OpenClaim := { program := "ythgeodagikmpjaa", sum := "53220ea1acc66585a17acaa4f8f03c3bd8eb8af26ca447dbd5853c27a0c98ab8", func := "skylight/skylightlaw01.VarintBytes", spec := "varintBytes", unfollowed := true, recurses := true, apart := false }
def VarintBytesSaid : Prop := varintBytesRow.holds Try.pinned (OpenSpec.ofChange varintBytesSpec)

/-- ITS FALSE NEIGHBOUR: 'it returns false'. Refute it at one input. -/
def varintBytesWrong : ChangeSpec := { name := "varintBytes", fn := fun _ => fun
  | [d] => { results := [.lit (.bool false)], args := [d] }
  | _ => none }
def VarintBytesWrongFalsely : Prop := varintBytesRow.holds Try.pinned (OpenSpec.ofChange varintBytesWrong)

/-- 'skylightlaw02.CodecWrites': WHATEVER THE INPUT: true; the input reads as it did. -/
def codecWritesSpec : ChangeSpec := { name := "codecWrites", fn := fun _ => fun
  | [d1, d2] => { results := [.lit (.bool true)], args := [d1, d2] }
  | _ => none }
def codecWritesRow : OpenClaim := { program := "ythgeodagikmpjaa", sum := "53220ea1acc66585a17acaa4f8f03c3bd8eb8af26ca447dbd5853c27a0c98ab8", func := "skylight/skylightlaw02.CodecWrites", spec := "codecWrites", unfollowed := true, recurses := true, apart := false }
def CodecWritesSaid : Prop := codecWritesRow.holds Try.pinned (OpenSpec.ofChange codecWritesSpec)

/-- ITS FALSE NEIGHBOUR: 'it returns false'. Refute it at one input. -/
def codecWritesWrong : ChangeSpec := { name := "codecWrites", fn := fun _ => fun
  | [d1, d2] => { results := [.lit (.bool false)], args := [d1, d2] }
  | _ => none }
def CodecWritesWrongFalsely : Prop := codecWritesRow.holds Try.pinned (OpenSpec.ofChange codecWritesWrong)

/-- 'skylightlaw02.CodecLimits': WHATEVER THE INPUT: true; the input reads as it did. -/
def codecLimitsSpec : ChangeSpec := { name := "codecLimits", fn := fun _ => fun
  | [d1, d2] => { results := [.lit (.bool true)], args := [d1, d2] }
  | _ => none }
def codecLimitsRow : OpenClaim := { program := "ythgeodagikmpjaa", sum := "53220ea1acc66585a17acaa4f8f03c3bd8eb8af26ca447dbd5853c27a0c98ab8", func := "skylight/skylightlaw02.CodecLimits", spec := "codecLimits", unfollowed := true, recurses := true, apart := false }
def CodecLimitsSaid : Prop := codecLimitsRow.holds Try.pinned (OpenSpec.ofChange codecLimitsSpec)

/-- ITS FALSE NEIGHBOUR: 'it returns false'. Refute it at one input. -/
def codecLimitsWrong : ChangeSpec := { name := "codecLimits", fn := fun _ => fun
  | [d1, d2] => { results := [.lit (.bool false)], args := [d1, d2] }
  | _ => none }
def CodecLimitsWrongFalsely : Prop := codecLimitsRow.holds Try.pinned (OpenSpec.ofChange codecLimitsWrong)

/-- 'skylightlaw02.CodecBack': WHATEVER THE INPUT: true; the input reads as it did. -/
def codecBackSpec : ChangeSpec := { name := "codecBack", fn := fun _ => fun
  | [d1, d2, d3] => { results := [.lit (.bool true)], args := [d1, d2, d3] }
  | _ => none }
def codecBackRow : OpenClaim := { program := "ythgeodagikmpjaa", sum := "53220ea1acc66585a17acaa4f8f03c3bd8eb8af26ca447dbd5853c27a0c98ab8", func := "skylight/skylightlaw02.CodecBack", spec := "codecBack", unfollowed := true, recurses := true, apart := false }
def CodecBackSaid : Prop := codecBackRow.holds Try.pinned (OpenSpec.ofChange codecBackSpec)

/-- ITS FALSE NEIGHBOUR: 'it returns false'. Refute it at one input. -/
def codecBackWrong : ChangeSpec := { name := "codecBack", fn := fun _ => fun
  | [d1, d2, d3] => { results := [.lit (.bool false)], args := [d1, d2, d3] }
  | _ => none }
def CodecBackWrongFalsely : Prop := codecBackRow.holds Try.pinned (OpenSpec.ofChange codecBackWrong)

/-- 'skylightlaw12.BufferTurn': WHATEVER THE INPUT: true; the input reads as it did. -/
def bufferTurnSpec : ChangeSpec := { name := "bufferTurn", fn := fun _ => fun
  | [d1, d2, d3] => { results := [.lit (.bool true)], args := [d1, d2, d3] }
  | _ => none }
def bufferTurnRow : OpenClaim := { program := "ythgeodagikmpjaa", sum := "53220ea1acc66585a17acaa4f8f03c3bd8eb8af26ca447dbd5853c27a0c98ab8", func := "skylight/skylightlaw12.BufferTurn", spec := "bufferTurn", unfollowed := true, recurses := true, apart := false }
def BufferTurnSaid : Prop := bufferTurnRow.holds Try.pinned (OpenSpec.ofChange bufferTurnSpec)

/-- ITS FALSE NEIGHBOUR: 'it returns false'. Refute it at one input. -/
def bufferTurnWrong : ChangeSpec := { name := "bufferTurn", fn := fun _ => fun
  | [d1, d2, d3] => { results := [.lit (.bool false)], args := [d1, d2, d3] }
  | _ => none }
def BufferTurnWrongFalsely : Prop := bufferTurnRow.holds Try.pinned (OpenSpec.ofChange bufferTurnWrong)

/-- 'skylightlaw12.BufferLate': WHATEVER THE INPUT: true; the input reads as it did. -/
def bufferLateSpec : ChangeSpec := { name := "bufferLate", fn := fun _ => fun
  | [d1, d2, d3] => { results := [.lit (.bool true)], args := [d1, d2, d3] }
  | _ => none }
def bufferLateRow : OpenClaim := { program := "ythgeodagikmpjaa", sum := "53220ea1acc66585a17acaa4f8f03c3bd8eb8af26ca447dbd5853c27a0c98ab8", func := "skylight/skylightlaw12.BufferLate", spec := "bufferLate", unfollowed := true, recurses := true, apart := false }
def BufferLateSaid : Prop := bufferLateRow.holds Try.pinned (OpenSpec.ofChange bufferLateSpec)

/-- ITS FALSE NEIGHBOUR: 'it returns false'. Refute it at one input. -/
def bufferLateWrong : ChangeSpec := { name := "bufferLate", fn := fun _ => fun
  | [d1, d2, d3] => { results := [.lit (.bool false)], args := [d1, d2, d3] }
  | _ => none }
def BufferLateWrongFalsely : Prop := bufferLateRow.holds Try.pinned (OpenSpec.ofChange bufferLateWrong)

/-- 'skylightlaw02.CodecReads': WHATEVER THE INPUT: true; the input reads as it did. -/
def codecReadsSpec : ChangeSpec := { name := "codecReads", fn := fun _ => fun
  | [d1, d2] => { results := [.lit (.bool true)], args := [d1, d2] }
  | _ => none }
def codecReadsRow : OpenClaim := { program := "ythgeodagikmpjaa", sum := "53220ea1acc66585a17acaa4f8f03c3bd8eb8af26ca447dbd5853c27a0c98ab8", func := "skylight/skylightlaw02.CodecReads", spec := "codecReads", unfollowed := true, recurses := true, apart := false }
def CodecReadsSaid : Prop := codecReadsRow.holds Try.pinned (OpenSpec.ofChange codecReadsSpec)

/-- ITS FALSE NEIGHBOUR: 'it returns false'. Refute it at one input. -/
def codecReadsWrong : ChangeSpec := { name := "codecReads", fn := fun _ => fun
  | [d1, d2] => { results := [.lit (.bool false)], args := [d1, d2] }
  | _ => none }
def CodecReadsWrongFalsely : Prop := codecReadsRow.holds Try.pinned (OpenSpec.ofChange codecReadsWrong)

/-- 'skylightlaw02.CodecNobody': WHATEVER THE INPUT: true; the input reads as it did. -/
def codecNobodySpec : ChangeSpec := { name := "codecNobody", fn := fun _ => fun
  | [d1, d2, d3] => { results := [.lit (.bool true)], args := [d1, d2, d3] }
  | _ => none }
def codecNobodyRow : OpenClaim := { program := "ythgeodagikmpjaa", sum := "53220ea1acc66585a17acaa4f8f03c3bd8eb8af26ca447dbd5853c27a0c98ab8", func := "skylight/skylightlaw02.CodecNobody", spec := "codecNobody", unfollowed := true, recurses := true, apart := false }
def CodecNobodySaid : Prop := codecNobodyRow.holds Try.pinned (OpenSpec.ofChange codecNobodySpec)

/-- ITS FALSE NEIGHBOUR: 'it returns false'. Refute it at one input. -/
def codecNobodyWrong : ChangeSpec := { name := "codecNobody", fn := fun _ => fun
  | [d1, d2, d3] => { results := [.lit (.bool false)], args := [d1, d2, d3] }
  | _ => none }
def CodecNobodyWrongFalsely : Prop := codecNobodyRow.holds Try.pinned (OpenSpec.ofChange codecNobodyWrong)

/-- 'skylightlaw12.BufferPlays': WHATEVER THE INPUT: true; the input reads as it did. -/
def bufferPlaysSpec : ChangeSpec := { name := "bufferPlays", fn := fun _ => fun
  | [d1, d2, d3] => { results := [.lit (.bool true)], args := [d1, d2, d3] }
  | _ => none }
def bufferPlaysRow : OpenClaim := { program := "ythgeodagikmpjaa", sum := "53220ea1acc66585a17acaa4f8f03c3bd8eb8af26ca447dbd5853c27a0c98ab8", func := "skylight/skylightlaw12.BufferPlays", spec := "bufferPlays", unfollowed := true, recurses := true, apart := false }
def BufferPlaysSaid : Prop := bufferPlaysRow.holds Try.pinned (OpenSpec.ofChange bufferPlaysSpec)

/-- ITS FALSE NEIGHBOUR: 'it returns false'. Refute it at one input. -/
def bufferPlaysWrong : ChangeSpec := { name := "bufferPlays", fn := fun _ => fun
  | [d1, d2, d3] => { results := [.lit (.bool false)], args := [d1, d2, d3] }
  | _ => none }
def BufferPlaysWrongFalsely : Prop := bufferPlaysRow.holds Try.pinned (OpenSpec.ofChange bufferPlaysWrong)

/-- 'skylightlaw12.BufferMay': WHATEVER THE INPUT: true; the input reads as it did. -/
def bufferMaySpec : ChangeSpec := { name := "bufferMay", fn := fun _ => fun
  | [d1, d2] => { results := [.lit (.bool true)], args := [d1, d2] }
  | _ => none }
def bufferMayRow : OpenClaim := { program := "ythgeodagikmpjaa", sum := "53220ea1acc66585a17acaa4f8f03c3bd8eb8af26ca447dbd5853c27a0c98ab8", func := "skylight/skylightlaw12.BufferMay", spec := "bufferMay", unfollowed := true, recurses := true, apart := false }
def BufferMaySaid : Prop := bufferMayRow.holds Try.pinned (OpenSpec.ofChange bufferMaySpec)

/-- ITS FALSE NEIGHBOUR: 'it returns false'. Refute it at one input. -/
def bufferMayWrong : ChangeSpec := { name := "bufferMay", fn := fun _ => fun
  | [d1, d2] => { results := [.lit (.bool false)], args := [d1, d2] }
  | _ => none }
def BufferMayWrongFalsely : Prop := bufferMayRow.holds Try.pinned (OpenSpec.ofChange bufferMayWrong)

/-- 'skylightlaw12.BufferMoves': WHATEVER THE INPUT: true; the input reads as it did. -/
def bufferMovesSpec : ChangeSpec := { name := "bufferMoves", fn := fun _ => fun
  | [d1, d2, d3] => { results := [.lit (.bool true)], args := [d1, d2, d3] }
  | _ => none }
def bufferMovesRow : OpenClaim := { program := "ythgeodagikmpjaa", sum := "53220ea1acc66585a17acaa4f8f03c3bd8eb8af26ca447dbd5853c27a0c98ab8", func := "skylight/skylightlaw12.BufferMoves", spec := "bufferMoves", unfollowed := true, recurses := true, apart := false }
def BufferMovesSaid : Prop := bufferMovesRow.holds Try.pinned (OpenSpec.ofChange bufferMovesSpec)

/-- ITS FALSE NEIGHBOUR: 'it returns false'. Refute it at one input. -/
def bufferMovesWrong : ChangeSpec := { name := "bufferMoves", fn := fun _ => fun
  | [d1, d2, d3] => { results := [.lit (.bool false)], args := [d1, d2, d3] }
  | _ => none }
def BufferMovesWrongFalsely : Prop := bufferMovesRow.holds Try.pinned (OpenSpec.ofChange bufferMovesWrong)

/-- 'skylightlaw12.BufferJoins': WHATEVER THE INPUT: true; the input reads as it did. -/
def bufferJoinsSpec : ChangeSpec := { name := "bufferJoins", fn := fun _ => fun
  | [d1, d2] => { results := [.lit (.bool true)], args := [d1, d2] }
  | _ => none }
def bufferJoinsRow : OpenClaim := { program := "ythgeodagikmpjaa", sum := "53220ea1acc66585a17acaa4f8f03c3bd8eb8af26ca447dbd5853c27a0c98ab8", func := "skylight/skylightlaw12.BufferJoins", spec := "bufferJoins", unfollowed := true, recurses := true, apart := false }
def BufferJoinsSaid : Prop := bufferJoinsRow.holds Try.pinned (OpenSpec.ofChange bufferJoinsSpec)

/-- ITS FALSE NEIGHBOUR: 'it returns false'. Refute it at one input. -/
def bufferJoinsWrong : ChangeSpec := { name := "bufferJoins", fn := fun _ => fun
  | [d1, d2] => { results := [.lit (.bool false)], args := [d1, d2] }
  | _ => none }
def BufferJoinsWrongFalsely : Prop := bufferJoinsRow.holds Try.pinned (OpenSpec.ofChange bufferJoinsWrong)

/- THE SECOND FORM. 'bulk': how many values and letters a reading holds, each counted each time it is reached (what is shared counts as often as it is met; a slice's spare places count too). A statement '..UptoSaid' is the law's where the arguments, and the package variables that the reading takes, are together of bulk at most 1048576: NARROWER than '..Said'. Prove '..Said' where nothing that the law and all that it calls make is longer than what came in: it says more and counts as full. Else prove '..UptoSaid'. A law counts once. -/
mutual
def uptoBulk {H : Type} : DataW H → Nat
  | .lit (.string bytes) => bytes.length + 1
  | .lit _ => 1
  | .nil => 1
  | .ptr d => uptoBulk d + 1
  | .slice elems spare => uptoBulkAll elems + uptoBulkAll spare + 1
  | .agg parts => uptoBulkAll parts + 1
  | .iface _ d => uptoBulk d + 1
  | .map entries => uptoBulkEntries entries + 1
  | .held _ => 1
def uptoBulkAll {H : Type} : List (DataW H) → Nat
  | [] => 0
  | d :: r => uptoBulk d + uptoBulkAll r
def uptoBulkEntries {H : Type} : List (Lit × DataW H) → Nat
  | [] => 0
  | x :: r => uptoBulkEntry x + uptoBulkEntries r
def uptoBulkEntry {H : Type} : Lit × DataW H → Nat
  | (.string bytes, d) => bytes.length + uptoBulk d + 1
  | (_, d) => uptoBulk d + 1
 end
def uptoSmall : (H : Type) → List (DataW H) → Bool := fun _ ds => decide (uptoBulkAll ds ≤ 1048576)
def OpenSpec.upto (s : _root_.Go.ChangeSpec) : _root_.Go.OpenSpec := { _root_.Go.OpenSpec.ofChange s with cond := some uptoSmall }

/-- 'skylightlaw01.VarintTells', WHERE WHAT IT READS IS OF BULK AT MOST 1048576: true; the input reads as it did. -/
def varintTellsUptoRow : OpenClaim := { program := "ythgeodagikmpjaa", sum := "53220ea1acc66585a17acaa4f8f03c3bd8eb8af26ca447dbd5853c27a0c98ab8", func := "skylight/skylightlaw01.VarintTells", spec := "varintTells", unfollowed := true, recurses := true, apart := false, narrowed := true }
def VarintTellsUptoSaid : Prop := varintTellsUptoRow.holds Try.pinned (OpenSpec.upto varintTellsSpec)

/-- 'skylightlaw01.VarintBack', WHERE WHAT IT READS IS OF BULK AT MOST 1048576: true; the input reads as it did. -/
def varintBackUptoRow : OpenClaim := { program := "ythgeodagikmpjaa", sum := "53220ea1acc66585a17acaa4f8f03c3bd8eb8af26ca447dbd5853c27a0c98ab8", func := "skylight/skylightlaw01.VarintBack", spec := "varintBack", unfollowed := true, recurses := true, apart := false, narrowed := true }
def VarintBackUptoSaid : Prop := varintBackUptoRow.holds Try.pinned (OpenSpec.upto varintBackSpec)

/-- 'skylightlaw01.VarintOne', WHERE WHAT IT READS IS OF BULK AT MOST 1048576: true; the input reads as it did. -/
def varintOneUptoRow : OpenClaim := { program := "ythgeodagikmpjaa", sum := "53220ea1acc66585a17acaa4f8f03c3bd8eb8af26ca447dbd5853c27a0c98ab8", func := "skylight/skylightlaw01.VarintOne", spec := "varintOne", unfollowed := true, recurses := true, apart := false, narrowed := true }
def VarintOneUptoSaid : Prop := varintOneUptoRow.holds Try.pinned (OpenSpec.upto varintOneSpec)

/-- 'skylightlaw01.VarintLess', WHERE WHAT IT READS IS OF BULK AT MOST 1048576: true; the input reads as it did. -/
def varintLessUptoRow : OpenClaim := { program := "ythgeodagikmpjaa", sum := "53220ea1acc66585a17acaa4f8f03c3bd8eb8af26ca447dbd5853c27a0c98ab8", func := "skylight/skylightlaw01.VarintLess", spec := "varintLess", unfollowed := true, recurses := true, apart := false, narrowed := true }
def VarintLessUptoSaid : Prop := varintLessUptoRow.holds Try.pinned (OpenSpec.upto varintLessSpec)

/-- 'skylightlaw01.VarintBytes', WHERE WHAT IT READS IS OF BULK AT MOST 1048576: true; the input reads as it did. -/
def varintBytesUptoRow : OpenClaim := { program := "ythgeodagikmpjaa", sum := "53220ea1acc66585a17acaa4f8f03c3bd8eb8af26ca447dbd5853c27a0c98ab8", func := "skylight/skylightlaw01.VarintBytes", spec := "varintBytes", unfollowed := true, recurses := true, apart := false, narrowed := true }
def VarintBytesUptoSaid : Prop := varintBytesUptoRow.holds Try.pinned (OpenSpec.upto varintBytesSpec)

/-- 'skylightlaw02.CodecWrites', WHERE WHAT IT READS IS OF BULK AT MOST 1048576: true; the input reads as it did. -/
def codecWritesUptoRow : OpenClaim := { program := "ythgeodagikmpjaa", sum := "53220ea1acc66585a17acaa4f8f03c3bd8eb8af26ca447dbd5853c27a0c98ab8", func := "skylight/skylightlaw02.CodecWrites", spec := "codecWrites", unfollowed := true, recurses := true, apart := false, narrowed := true }
def CodecWritesUptoSaid : Prop := codecWritesUptoRow.holds Try.pinned (OpenSpec.upto codecWritesSpec)

/-- 'skylightlaw02.CodecLimits', WHERE WHAT IT READS IS OF BULK AT MOST 1048576: true; the input reads as it did. -/
def codecLimitsUptoRow : OpenClaim := { program := "ythgeodagikmpjaa", sum := "53220ea1acc66585a17acaa4f8f03c3bd8eb8af26ca447dbd5853c27a0c98ab8", func := "skylight/skylightlaw02.CodecLimits", spec := "codecLimits", unfollowed := true, recurses := true, apart := false, narrowed := true }
def CodecLimitsUptoSaid : Prop := codecLimitsUptoRow.holds Try.pinned (OpenSpec.upto codecLimitsSpec)

/-- 'skylightlaw02.CodecBack', WHERE WHAT IT READS IS OF BULK AT MOST 1048576: true; the input reads as it did. -/
def codecBackUptoRow : OpenClaim := { program := "ythgeodagikmpjaa", sum := "53220ea1acc66585a17acaa4f8f03c3bd8eb8af26ca447dbd5853c27a0c98ab8", func := "skylight/skylightlaw02.CodecBack", spec := "codecBack", unfollowed := true, recurses := true, apart := false, narrowed := true }
def CodecBackUptoSaid : Prop := codecBackUptoRow.holds Try.pinned (OpenSpec.upto codecBackSpec)

/-- 'skylightlaw12.BufferTurn', WHERE WHAT IT READS IS OF BULK AT MOST 1048576: true; the input reads as it did. -/
def bufferTurnUptoRow : OpenClaim := { program := "ythgeodagikmpjaa", sum := "53220ea1acc66585a17acaa4f8f03c3bd8eb8af26ca447dbd5853c27a0c98ab8", func := "skylight/skylightlaw12.BufferTurn", spec := "bufferTurn", unfollowed := true, recurses := true, apart := false, narrowed := true }
def BufferTurnUptoSaid : Prop := bufferTurnUptoRow.holds Try.pinned (OpenSpec.upto bufferTurnSpec)

/-- 'skylightlaw12.BufferLate', WHERE WHAT IT READS IS OF BULK AT MOST 1048576: true; the input reads as it did. -/
def bufferLateUptoRow : OpenClaim := { program := "ythgeodagikmpjaa", sum := "53220ea1acc66585a17acaa4f8f03c3bd8eb8af26ca447dbd5853c27a0c98ab8", func := "skylight/skylightlaw12.BufferLate", spec := "bufferLate", unfollowed := true, recurses := true, apart := false, narrowed := true }
def BufferLateUptoSaid : Prop := bufferLateUptoRow.holds Try.pinned (OpenSpec.upto bufferLateSpec)

/-- 'skylightlaw02.CodecReads', WHERE WHAT IT READS IS OF BULK AT MOST 1048576: true; the input reads as it did. -/
def codecReadsUptoRow : OpenClaim := { program := "ythgeodagikmpjaa", sum := "53220ea1acc66585a17acaa4f8f03c3bd8eb8af26ca447dbd5853c27a0c98ab8", func := "skylight/skylightlaw02.CodecReads", spec := "codecReads", unfollowed := true, recurses := true, apart := false, narrowed := true }
def CodecReadsUptoSaid : Prop := codecReadsUptoRow.holds Try.pinned (OpenSpec.upto codecReadsSpec)

/-- 'skylightlaw02.CodecNobody', WHERE WHAT IT READS IS OF BULK AT MOST 1048576: true; the input reads as it did. -/
def codecNobodyUptoRow : OpenClaim := { program := "ythgeodagikmpjaa", sum := "53220ea1acc66585a17acaa4f8f03c3bd8eb8af26ca447dbd5853c27a0c98ab8", func := "skylight/skylightlaw02.CodecNobody", spec := "codecNobody", unfollowed := true, recurses := true, apart := false, narrowed := true }
def CodecNobodyUptoSaid : Prop := codecNobodyUptoRow.holds Try.pinned (OpenSpec.upto codecNobodySpec)

/-- 'skylightlaw12.BufferPlays', WHERE WHAT IT READS IS OF BULK AT MOST 1048576: true; the input reads as it did. -/
def bufferPlaysUptoRow : OpenClaim := { program := "ythgeodagikmpjaa", sum := "53220ea1acc66585a17acaa4f8f03c3bd8eb8af26ca447dbd5853c27a0c98ab8", func := "skylight/skylightlaw12.BufferPlays", spec := "bufferPlays", unfollowed := true, recurses := true, apart := false, narrowed := true }
def BufferPlaysUptoSaid : Prop := bufferPlaysUptoRow.holds Try.pinned (OpenSpec.upto bufferPlaysSpec)

/-- 'skylightlaw12.BufferMay', WHERE WHAT IT READS IS OF BULK AT MOST 1048576: true; the input reads as it did. -/
def bufferMayUptoRow : OpenClaim := { program := "ythgeodagikmpjaa", sum := "53220ea1acc66585a17acaa4f8f03c3bd8eb8af26ca447dbd5853c27a0c98ab8", func := "skylight/skylightlaw12.BufferMay", spec := "bufferMay", unfollowed := true, recurses := true, apart := false, narrowed := true }
def BufferMayUptoSaid : Prop := bufferMayUptoRow.holds Try.pinned (OpenSpec.upto bufferMaySpec)

/-- 'skylightlaw12.BufferMoves', WHERE WHAT IT READS IS OF BULK AT MOST 1048576: true; the input reads as it did. -/
def bufferMovesUptoRow : OpenClaim := { program := "ythgeodagikmpjaa", sum := "53220ea1acc66585a17acaa4f8f03c3bd8eb8af26ca447dbd5853c27a0c98ab8", func := "skylight/skylightlaw12.BufferMoves", spec := "bufferMoves", unfollowed := true, recurses := true, apart := false, narrowed := true }
def BufferMovesUptoSaid : Prop := bufferMovesUptoRow.holds Try.pinned (OpenSpec.upto bufferMovesSpec)

/-- 'skylightlaw12.BufferJoins', WHERE WHAT IT READS IS OF BULK AT MOST 1048576: true; the input reads as it did. -/
def bufferJoinsUptoRow : OpenClaim := { program := "ythgeodagikmpjaa", sum := "53220ea1acc66585a17acaa4f8f03c3bd8eb8af26ca447dbd5853c27a0c98ab8", func := "skylight/skylightlaw12.BufferJoins", spec := "bufferJoins", unfollowed := true, recurses := true, apart := false, narrowed := true }
def BufferJoinsUptoSaid : Prop := bufferJoinsUptoRow.holds Try.pinned (OpenSpec.upto bufferJoinsSpec)

end Rows
end Go.Proofs.Ythgeodagikmpjaa
