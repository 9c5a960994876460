/-
  No cell of these rows narrows 'for every input' (looked for: loops, veiled, ifaces, maps, wideKeys, modest, calm, conditions, laid).
  DERIVED. THE GIVEN ROWS OF THIS SEAT. 12 by the template 'for every input the law returns true; each argument reads behind the call as it read before'; 0 by the template 'total and deterministic' (their statements: YtbeknohemgjfbaaTotals.lean).
  GIVEN WITH THE SEED: the statements are not yours to turn. If you find one false, say at which input.
  Laid BY PROGRAM, IN A SANDBOX (cutbox-rows.mjs): the forced cells as the released guide's own fill.sh prints them over the translation 73ccf525c751c4c6… (all of the seat's roots in one cut). By AI agents, Wed Nov 11 2026. No macro, syntax, notation, axiom, sorry.
-/
import Derived.Test.YtbeknohemgjfbaaChecked
import GoSem.Claim
import GoSem.ClaimJoined
import GoSem.ClaimMapViews
import Derived.JoinedTies
import Derived.KernelRfl
namespace Go.Proofs.Ytbeknohemgjfbaa
/- THE CELL 'sum', in the pinned program and in every row, IS THE sha256 OF THE DUMP (.gsa) THAT YtbeknohemgjfbaaProg.lean LOADS. Nothing in Lean hashes anything: it is a label: what it is worth is what the hold of that sum in a sandbox is worth. -/
noncomputable def Try.pinned : Pinned := { name := "ytbeknohemgjfbaa", sum := "73ccf525c751c4c629e5959eb2781734dbdcf9afcb849f75ca7411a816569c2d", checked := Try.checked }
namespace Rows
def none {H : Type} : Left H := { results := [], args := [] }

/-- 'skylightlaw09.CheckOdd': WHATEVER THE INPUT: true; the input reads as it did. -/
def checkOddSpec : ChangeSpec := { name := "checkOdd", fn := fun _ => fun
  | [d1, d2, d3] => { results := [.lit (.bool true)], args := [d1, d2, d3] }
  | _ => none }
def checkOddRow : OpenClaim := { program := "ytbeknohemgjfbaa", sum := "73ccf525c751c4c629e5959eb2781734dbdcf9afcb849f75ca7411a816569c2d", func := "skylight/skylightlaw09.CheckOdd", spec := "checkOdd", unfollowed := true, recurses := true, apart := false }
def CheckOddSaid : Prop := checkOddRow.holds Try.pinned (OpenSpec.ofChange checkOddSpec)

/-- ITS FALSE NEIGHBOUR: 'it returns false'. Refute it at one input. -/
def checkOddWrong : ChangeSpec := { name := "checkOdd", fn := fun _ => fun
  | [d1, d2, d3] => { results := [.lit (.bool false)], args := [d1, d2, d3] }
  | _ => none }
def CheckOddWrongFalsely : Prop := checkOddRow.holds Try.pinned (OpenSpec.ofChange checkOddWrong)

/-- 'skylightlaw11.RecordPuts': WHATEVER THE INPUT: true; the input reads as it did. -/
def recordPutsSpec : ChangeSpec := { name := "recordPuts", fn := fun _ => fun
  | [d] => { results := [.lit (.bool true)], args := [d] }
  | _ => none }
def recordPutsRow : OpenClaim := { program := "ytbeknohemgjfbaa", sum := "73ccf525c751c4c629e5959eb2781734dbdcf9afcb849f75ca7411a816569c2d", func := "skylight/skylightlaw11.RecordPuts", spec := "recordPuts", unfollowed := true, recurses := true, apart := false }
def RecordPutsSaid : Prop := recordPutsRow.holds Try.pinned (OpenSpec.ofChange recordPutsSpec)

/-- ITS FALSE NEIGHBOUR: 'it returns false'. Refute it at one input. -/
def recordPutsWrong : ChangeSpec := { name := "recordPuts", fn := fun _ => fun
  | [d] => { results := [.lit (.bool false)], args := [d] }
  | _ => none }
def RecordPutsWrongFalsely : Prop := recordPutsRow.holds Try.pinned (OpenSpec.ofChange recordPutsWrong)

/-- 'skylightlaw11.RecordTakes': WHATEVER THE INPUT: true; the input reads as it did. -/
def recordTakesSpec : ChangeSpec := { name := "recordTakes", fn := fun _ => fun
  | [d] => { results := [.lit (.bool true)], args := [d] }
  | _ => none }
def recordTakesRow : OpenClaim := { program := "ytbeknohemgjfbaa", sum := "73ccf525c751c4c629e5959eb2781734dbdcf9afcb849f75ca7411a816569c2d", func := "skylight/skylightlaw11.RecordTakes", spec := "recordTakes", unfollowed := true, recurses := true, apart := false }
def RecordTakesSaid : Prop := recordTakesRow.holds Try.pinned (OpenSpec.ofChange recordTakesSpec)

/-- ITS FALSE NEIGHBOUR: 'it returns false'. Refute it at one input. -/
def recordTakesWrong : ChangeSpec := { name := "recordTakes", fn := fun _ => fun
  | [d] => { results := [.lit (.bool false)], args := [d] }
  | _ => none }
def RecordTakesWrongFalsely : Prop := recordTakesRow.holds Try.pinned (OpenSpec.ofChange recordTakesWrong)

/-- 'skylightlaw11.RecordBack': WHATEVER THE INPUT: true; the input reads as it did. -/
def recordBackSpec : ChangeSpec := { name := "recordBack", fn := fun _ => fun
  | [d1, d2, d3] => { results := [.lit (.bool true)], args := [d1, d2, d3] }
  | _ => none }
def recordBackRow : OpenClaim := { program := "ytbeknohemgjfbaa", sum := "73ccf525c751c4c629e5959eb2781734dbdcf9afcb849f75ca7411a816569c2d", func := "skylight/skylightlaw11.RecordBack", spec := "recordBack", unfollowed := true, recurses := true, apart := false }
def RecordBackSaid : Prop := recordBackRow.holds Try.pinned (OpenSpec.ofChange recordBackSpec)

/-- ITS FALSE NEIGHBOUR: 'it returns false'. Refute it at one input. -/
def recordBackWrong : ChangeSpec := { name := "recordBack", fn := fun _ => fun
  | [d1, d2, d3] => { results := [.lit (.bool false)], args := [d1, d2, d3] }
  | _ => none }
def RecordBackWrongFalsely : Prop := recordBackRow.holds Try.pinned (OpenSpec.ofChange recordBackWrong)

/-- 'skylightlaw11.RecordOne': WHATEVER THE INPUT: true; the input reads as it did. -/
def recordOneSpec : ChangeSpec := { name := "recordOne", fn := fun _ => fun
  | [d] => { results := [.lit (.bool true)], args := [d] }
  | _ => none }
def recordOneRow : OpenClaim := { program := "ytbeknohemgjfbaa", sum := "73ccf525c751c4c629e5959eb2781734dbdcf9afcb849f75ca7411a816569c2d", func := "skylight/skylightlaw11.RecordOne", spec := "recordOne", unfollowed := true, recurses := true, apart := false }
def RecordOneSaid : Prop := recordOneRow.holds Try.pinned (OpenSpec.ofChange recordOneSpec)

/-- ITS FALSE NEIGHBOUR: 'it returns false'. Refute it at one input. -/
def recordOneWrong : ChangeSpec := { name := "recordOne", fn := fun _ => fun
  | [d] => { results := [.lit (.bool false)], args := [d] }
  | _ => none }
def RecordOneWrongFalsely : Prop := recordOneRow.holds Try.pinned (OpenSpec.ofChange recordOneWrong)

/-- 'skylightlaw11.RecordLists': WHATEVER THE INPUT: true; the input reads as it did. -/
def recordListsSpec : ChangeSpec := { name := "recordLists", fn := fun _ => fun
  | [d1, d2] => { results := [.lit (.bool true)], args := [d1, d2] }
  | _ => none }
def recordListsRow : OpenClaim := { program := "ytbeknohemgjfbaa", sum := "73ccf525c751c4c629e5959eb2781734dbdcf9afcb849f75ca7411a816569c2d", func := "skylight/skylightlaw11.RecordLists", spec := "recordLists", unfollowed := true, recurses := true, apart := false }
def RecordListsSaid : Prop := recordListsRow.holds Try.pinned (OpenSpec.ofChange recordListsSpec)

/-- ITS FALSE NEIGHBOUR: 'it returns false'. Refute it at one input. -/
def recordListsWrong : ChangeSpec := { name := "recordLists", fn := fun _ => fun
  | [d1, d2] => { results := [.lit (.bool false)], args := [d1, d2] }
  | _ => none }
def RecordListsWrongFalsely : Prop := recordListsRow.holds Try.pinned (OpenSpec.ofChange recordListsWrong)

/-- 'skylightlaw12.BufferJoins': WHATEVER THE INPUT: true; the input reads as it did. -/
def bufferJoinsSpec : ChangeSpec := { name := "bufferJoins", fn := fun _ => fun
  | [d1, d2] => { results := [.lit (.bool true)], args := [d1, d2] }
  | _ => none }
def bufferJoinsRow : OpenClaim := { program := "ytbeknohemgjfbaa", sum := "73ccf525c751c4c629e5959eb2781734dbdcf9afcb849f75ca7411a816569c2d", func := "skylight/skylightlaw12.BufferJoins", spec := "bufferJoins", unfollowed := true, recurses := true, apart := false }
def BufferJoinsSaid : Prop := bufferJoinsRow.holds Try.pinned (OpenSpec.ofChange bufferJoinsSpec)

/-- ITS FALSE NEIGHBOUR: 'it returns false'. Refute it at one input. -/
def bufferJoinsWrong : ChangeSpec := { name := "bufferJoins", fn := fun _ => fun
  | [d1, d2] => { results := [.lit (.bool false)], args := [d1, d2] }
  | _ => none }
def BufferJoinsWrongFalsely : Prop := bufferJoinsRow.holds Try.pinned (OpenSpec.ofChange bufferJoinsWrong)

/-- 'skylightlaw21.ConfChecks': WHATEVER THE INPUT: true; the input reads as it did. -/
def confChecksSpec : ChangeSpec := { name := "confChecks", fn := fun _ => fun
  | [d] => { results := [.lit (.bool true)], args := [d] }
  | _ => none }
def confChecksRow : OpenClaim := { program := "ytbeknohemgjfbaa", sum := "73ccf525c751c4c629e5959eb2781734dbdcf9afcb849f75ca7411a816569c2d", func := "skylight/skylightlaw21.ConfChecks", spec := "confChecks", unfollowed := true, recurses := true, apart := false }
def ConfChecksSaid : Prop := confChecksRow.holds Try.pinned (OpenSpec.ofChange confChecksSpec)

/-- ITS FALSE NEIGHBOUR: 'it returns false'. Refute it at one input. -/
def confChecksWrong : ChangeSpec := { name := "confChecks", fn := fun _ => fun
  | [d] => { results := [.lit (.bool false)], args := [d] }
  | _ => none }
def ConfChecksWrongFalsely : Prop := confChecksRow.holds Try.pinned (OpenSpec.ofChange confChecksWrong)

/-- 'skylightlaw21.ConfTakes': WHATEVER THE INPUT: true; the input reads as it did. -/
def confTakesSpec : ChangeSpec := { name := "confTakes", fn := fun _ => fun
  | [d] => { results := [.lit (.bool true)], args := [d] }
  | _ => none }
def confTakesRow : OpenClaim := { program := "ytbeknohemgjfbaa", sum := "73ccf525c751c4c629e5959eb2781734dbdcf9afcb849f75ca7411a816569c2d", func := "skylight/skylightlaw21.ConfTakes", spec := "confTakes", unfollowed := true, recurses := true, apart := false }
def ConfTakesSaid : Prop := confTakesRow.holds Try.pinned (OpenSpec.ofChange confTakesSpec)

/-- ITS FALSE NEIGHBOUR: 'it returns false'. Refute it at one input. -/
def confTakesWrong : ChangeSpec := { name := "confTakes", fn := fun _ => fun
  | [d] => { results := [.lit (.bool false)], args := [d] }
  | _ => none }
def ConfTakesWrongFalsely : Prop := confTakesRow.holds Try.pinned (OpenSpec.ofChange confTakesWrong)

/-- 'skylightlaw21.ConfBack': WHATEVER THE INPUT: true; the input reads as it did. -/
def confBackSpec : ChangeSpec := { name := "confBack", fn := fun _ => fun
  | [d1, d2, d3] => { results := [.lit (.bool true)], args := [d1, d2, d3] }
  | _ => none }
def confBackRow : OpenClaim := { program := "ytbeknohemgjfbaa", sum := "73ccf525c751c4c629e5959eb2781734dbdcf9afcb849f75ca7411a816569c2d", func := "skylight/skylightlaw21.ConfBack", spec := "confBack", unfollowed := true, recurses := true, apart := false }
def ConfBackSaid : Prop := confBackRow.holds Try.pinned (OpenSpec.ofChange confBackSpec)

/-- ITS FALSE NEIGHBOUR: 'it returns false'. Refute it at one input. -/
def confBackWrong : ChangeSpec := { name := "confBack", fn := fun _ => fun
  | [d1, d2, d3] => { results := [.lit (.bool false)], args := [d1, d2, d3] }
  | _ => none }
def ConfBackWrongFalsely : Prop := confBackRow.holds Try.pinned (OpenSpec.ofChange confBackWrong)

/-- 'skylightlaw21.ConfOne': WHATEVER THE INPUT: true; the input reads as it did. -/
def confOneSpec : ChangeSpec := { name := "confOne", fn := fun _ => fun
  | [d] => { results := [.lit (.bool true)], args := [d] }
  | _ => none }
def confOneRow : OpenClaim := { program := "ytbeknohemgjfbaa", sum := "73ccf525c751c4c629e5959eb2781734dbdcf9afcb849f75ca7411a816569c2d", func := "skylight/skylightlaw21.ConfOne", spec := "confOne", unfollowed := true, recurses := true, apart := false }
def ConfOneSaid : Prop := confOneRow.holds Try.pinned (OpenSpec.ofChange confOneSpec)

/-- ITS FALSE NEIGHBOUR: 'it returns false'. Refute it at one input. -/
def confOneWrong : ChangeSpec := { name := "confOne", fn := fun _ => fun
  | [d] => { results := [.lit (.bool false)], args := [d] }
  | _ => none }
def ConfOneWrongFalsely : Prop := confOneRow.holds Try.pinned (OpenSpec.ofChange confOneWrong)

/-- 'skylightlaw21.ConfSame': WHATEVER THE INPUT: true; the input reads as it did. -/
def confSameSpec : ChangeSpec := { name := "confSame", fn := fun _ => fun
  | [d1, d2] => { results := [.lit (.bool true)], args := [d1, d2] }
  | _ => none }
def confSameRow : OpenClaim := { program := "ytbeknohemgjfbaa", sum := "73ccf525c751c4c629e5959eb2781734dbdcf9afcb849f75ca7411a816569c2d", func := "skylight/skylightlaw21.ConfSame", spec := "confSame", unfollowed := true, recurses := true, apart := false }
def ConfSameSaid : Prop := confSameRow.holds Try.pinned (OpenSpec.ofChange confSameSpec)

/-- ITS FALSE NEIGHBOUR: 'it returns false'. Refute it at one input. -/
def confSameWrong : ChangeSpec := { name := "confSame", fn := fun _ => fun
  | [d1, d2] => { results := [.lit (.bool false)], args := [d1, d2] }
  | _ => none }
def ConfSameWrongFalsely : Prop := confSameRow.holds Try.pinned (OpenSpec.ofChange confSameWrong)

/- THE SECOND FORM. 'bulk': how many values and letters a reading holds, each counted each time it is reached (what is shared counts as often as it is met; a slice's spare places count too). A statement '..UptoSaid' is the law's where the arguments, and the package variables that the reading takes, are together of bulk at most 1048576: NARROWER than '..Said'. Prove '..Said' where nothing that the law and all that it calls make is longer than what came in: it says more and counts as full. Else prove '..UptoSaid'. A law counts once. -/
mutual
def uptoBulk {H : Type} : DataW H → Nat
  | .lit (.string bytes) => bytes.length + 1
  | .lit _ => 1
  | .nil => 1
  | .ptr d => uptoBulk d + 1
  | .slice elems spare => uptoBulkAll elems + uptoBulkAll spare + 1
  | .agg parts => uptoBulkAll parts + 1
  | .iface _ d => uptoBulk d + 1
  | .map entries => uptoBulkEntries entries + 1
  | .held _ => 1
def uptoBulkAll {H : Type} : List (DataW H) → Nat
  | [] => 0
  | d :: r => uptoBulk d + uptoBulkAll r
def uptoBulkEntries {H : Type} : List (Lit × DataW H) → Nat
  | [] => 0
  | x :: r => uptoBulkEntry x + uptoBulkEntries r
def uptoBulkEntry {H : Type} : Lit × DataW H → Nat
  | (.string bytes, d) => bytes.length + uptoBulk d + 1
  | (_, d) => uptoBulk d + 1
 end
def uptoSmall : (H : Type) → List (DataW H) → Bool := fun _ ds => decide (uptoBulkAll ds ≤ 1048576)
def OpenSpec.upto (s : _root_.Go.ChangeSpec) : _root_.Go.OpenSpec := { _root_.Go.OpenSpec.ofChange s with cond := some uptoSmall }

/-- 'skylightlaw09.CheckOdd', WHERE WHAT IT READS IS OF BULK AT MOST 1048576: true; the input reads as it did. -/
def checkOddUptoRow : OpenClaim := { program := "ytbeknohemgjfbaa", sum := "73ccf525c751c4c629e5959eb2781734dbdcf9afcb849f75ca7411a816569c2d", func := "skylight/skylightlaw09.CheckOdd", spec := "checkOdd", unfollowed := true, recurses := true, apart := false, narrowed := true }
def CheckOddUptoSaid : Prop := checkOddUptoRow.holds Try.pinned (OpenSpec.upto checkOddSpec)

/-- 'skylightlaw11.RecordPuts', WHERE WHAT IT READS IS OF BULK AT MOST 1048576: true; the input reads as it did. -/
def recordPutsUptoRow : OpenClaim := { program := "ytbeknohemgjfbaa", sum := "73ccf525c751c4c629e5959eb2781734dbdcf9afcb849f75ca7411a816569c2d", func := "skylight/skylightlaw11.RecordPuts", spec := "recordPuts", unfollowed := true, recurses := true, apart := false, narrowed := true }
def RecordPutsUptoSaid : Prop := recordPutsUptoRow.holds Try.pinned (OpenSpec.upto recordPutsSpec)

/-- 'skylightlaw11.RecordTakes', WHERE WHAT IT READS IS OF BULK AT MOST 1048576: true; the input reads as it did. -/
def recordTakesUptoRow : OpenClaim := { program := "ytbeknohemgjfbaa", sum := "73ccf525c751c4c629e5959eb2781734dbdcf9afcb849f75ca7411a816569c2d", func := "skylight/skylightlaw11.RecordTakes", spec := "recordTakes", unfollowed := true, recurses := true, apart := false, narrowed := true }
def RecordTakesUptoSaid : Prop := recordTakesUptoRow.holds Try.pinned (OpenSpec.upto recordTakesSpec)

/-- 'skylightlaw11.RecordBack', WHERE WHAT IT READS IS OF BULK AT MOST 1048576: true; the input reads as it did. -/
def recordBackUptoRow : OpenClaim := { program := "ytbeknohemgjfbaa", sum := "73ccf525c751c4c629e5959eb2781734dbdcf9afcb849f75ca7411a816569c2d", func := "skylight/skylightlaw11.RecordBack", spec := "recordBack", unfollowed := true, recurses := true, apart := false, narrowed := true }
def RecordBackUptoSaid : Prop := recordBackUptoRow.holds Try.pinned (OpenSpec.upto recordBackSpec)

/-- 'skylightlaw11.RecordOne', WHERE WHAT IT READS IS OF BULK AT MOST 1048576: true; the input reads as it did. -/
def recordOneUptoRow : OpenClaim := { program := "ytbeknohemgjfbaa", sum := "73ccf525c751c4c629e5959eb2781734dbdcf9afcb849f75ca7411a816569c2d", func := "skylight/skylightlaw11.RecordOne", spec := "recordOne", unfollowed := true, recurses := true, apart := false, narrowed := true }
def RecordOneUptoSaid : Prop := recordOneUptoRow.holds Try.pinned (OpenSpec.upto recordOneSpec)

/-- 'skylightlaw11.RecordLists', WHERE WHAT IT READS IS OF BULK AT MOST 1048576: true; the input reads as it did. -/
def recordListsUptoRow : OpenClaim := { program := "ytbeknohemgjfbaa", sum := "73ccf525c751c4c629e5959eb2781734dbdcf9afcb849f75ca7411a816569c2d", func := "skylight/skylightlaw11.RecordLists", spec := "recordLists", unfollowed := true, recurses := true, apart := false, narrowed := true }
def RecordListsUptoSaid : Prop := recordListsUptoRow.holds Try.pinned (OpenSpec.upto recordListsSpec)

/-- 'skylightlaw12.BufferJoins', WHERE WHAT IT READS IS OF BULK AT MOST 1048576: true; the input reads as it did. -/
def bufferJoinsUptoRow : OpenClaim := { program := "ytbeknohemgjfbaa", sum := "73ccf525c751c4c629e5959eb2781734dbdcf9afcb849f75ca7411a816569c2d", func := "skylight/skylightlaw12.BufferJoins", spec := "bufferJoins", unfollowed := true, recurses := true, apart := false, narrowed := true }
def BufferJoinsUptoSaid : Prop := bufferJoinsUptoRow.holds Try.pinned (OpenSpec.upto bufferJoinsSpec)

/-- 'skylightlaw21.ConfChecks', WHERE WHAT IT READS IS OF BULK AT MOST 1048576: true; the input reads as it did. -/
def confChecksUptoRow : OpenClaim := { program := "ytbeknohemgjfbaa", sum := "73ccf525c751c4c629e5959eb2781734dbdcf9afcb849f75ca7411a816569c2d", func := "skylight/skylightlaw21.ConfChecks", spec := "confChecks", unfollowed := true, recurses := true, apart := false, narrowed := true }
def ConfChecksUptoSaid : Prop := confChecksUptoRow.holds Try.pinned (OpenSpec.upto confChecksSpec)

/-- 'skylightlaw21.ConfTakes', WHERE WHAT IT READS IS OF BULK AT MOST 1048576: true; the input reads as it did. -/
def confTakesUptoRow : OpenClaim := { program := "ytbeknohemgjfbaa", sum := "73ccf525c751c4c629e5959eb2781734dbdcf9afcb849f75ca7411a816569c2d", func := "skylight/skylightlaw21.ConfTakes", spec := "confTakes", unfollowed := true, recurses := true, apart := false, narrowed := true }
def ConfTakesUptoSaid : Prop := confTakesUptoRow.holds Try.pinned (OpenSpec.upto confTakesSpec)

/-- 'skylightlaw21.ConfBack', WHERE WHAT IT READS IS OF BULK AT MOST 1048576: true; the input reads as it did. -/
def confBackUptoRow : OpenClaim := { program := "ytbeknohemgjfbaa", sum := "73ccf525c751c4c629e5959eb2781734dbdcf9afcb849f75ca7411a816569c2d", func := "skylight/skylightlaw21.ConfBack", spec := "confBack", unfollowed := true, recurses := true, apart := false, narrowed := true }
def ConfBackUptoSaid : Prop := confBackUptoRow.holds Try.pinned (OpenSpec.upto confBackSpec)

/-- 'skylightlaw21.ConfOne', WHERE WHAT IT READS IS OF BULK AT MOST 1048576: true; the input reads as it did. -/
def confOneUptoRow : OpenClaim := { program := "ytbeknohemgjfbaa", sum := "73ccf525c751c4c629e5959eb2781734dbdcf9afcb849f75ca7411a816569c2d", func := "skylight/skylightlaw21.ConfOne", spec := "confOne", unfollowed := true, recurses := true, apart := false, narrowed := true }
def ConfOneUptoSaid : Prop := confOneUptoRow.holds Try.pinned (OpenSpec.upto confOneSpec)

/-- 'skylightlaw21.ConfSame', WHERE WHAT IT READS IS OF BULK AT MOST 1048576: true; the input reads as it did. -/
def confSameUptoRow : OpenClaim := { program := "ytbeknohemgjfbaa", sum := "73ccf525c751c4c629e5959eb2781734dbdcf9afcb849f75ca7411a816569c2d", func := "skylight/skylightlaw21.ConfSame", spec := "confSame", unfollowed := true, recurses := true, apart := false, narrowed := true }
def ConfSameUptoSaid : Prop := confSameUptoRow.holds Try.pinned (OpenSpec.upto confSameSpec)

end Rows
end Go.Proofs.Ytbeknohemgjfbaa
