/-
  No cell of these rows narrows 'for every input' (looked for: loops, veiled, ifaces, maps, wideKeys, modest, calm, conditions, laid).
  DERIVED. THE GIVEN ROWS OF THIS SEAT. 26 by the template 'for every input the law returns true; each argument reads behind the call as it read before'; 0 by the template 'total and deterministic' (their statements: YtbnjjpmlaknaoaaTotals.lean).
  GIVEN WITH THE SEED: the statements are not yours to turn. If you find one false, say at which input.
  Laid BY PROGRAM, IN A SANDBOX (cutbox-rows.mjs): the forced cells as the released guide's own fill.sh prints them over the translation 5c46b7713cbaba49… (all of the seat's roots in one cut). By AI agents, Wed Nov 11 2026. No macro, syntax, notation, axiom, sorry.
-/
import Derived.Test.YtbnjjpmlaknaoaaChecked
import GoSem.Claim
import GoSem.ClaimJoined
import GoSem.ClaimMapViews
import Derived.JoinedTies
import Derived.KernelRfl
namespace Go.Proofs.Ytbnjjpmlaknaoaa
/- THE CELL 'sum', in the pinned program and in every row, IS THE sha256 OF THE DUMP (.gsa) THAT YtbnjjpmlaknaoaaProg.lean LOADS. Nothing in Lean hashes anything: it is a label: what it is worth is what the hold of that sum in a sandbox is worth. -/
noncomputable def Try.pinned : Pinned := { name := "ytbnjjpmlaknaoaa", sum := "5c46b7713cbaba49ce3a17f4176035be0b2e9399062d1cae780bd1323599037a", checked := Try.checked }
namespace Rows
def none {H : Type} : Left H := { results := [], args := [] }

/-- 'skylightlaw07.ExpiryTells': WHATEVER THE INPUT: true; the input reads as it did. -/
def expiryTellsSpec : ChangeSpec := { name := "expiryTells", fn := fun _ => fun
  | [d1, d2, d3] => { results := [.lit (.bool true)], args := [d1, d2, d3] }
  | _ => none }
def expiryTellsRow : OpenClaim := { program := "ytbnjjpmlaknaoaa", sum := "5c46b7713cbaba49ce3a17f4176035be0b2e9399062d1cae780bd1323599037a", func := "skylight/skylightlaw07.ExpiryTells", spec := "expiryTells", unfollowed := true, recurses := true, apart := false }
def ExpiryTellsSaid : Prop := expiryTellsRow.holds Try.pinned (OpenSpec.ofChange expiryTellsSpec)

/-- ITS FALSE NEIGHBOUR: 'it returns false'. Refute it at one input. -/
def expiryTellsWrong : ChangeSpec := { name := "expiryTells", fn := fun _ => fun
  | [d1, d2, d3] => { results := [.lit (.bool false)], args := [d1, d2, d3] }
  | _ => none }
def ExpiryTellsWrongFalsely : Prop := expiryTellsRow.holds Try.pinned (OpenSpec.ofChange expiryTellsWrong)

/-- 'skylightlaw07.ExpiryStays': WHATEVER THE INPUT: true; the input reads as it did. -/
def expiryStaysSpec : ChangeSpec := { name := "expiryStays", fn := fun _ => fun
  | [d1, d2, d3] => { results := [.lit (.bool true)], args := [d1, d2, d3] }
  | _ => none }
def expiryStaysRow : OpenClaim := { program := "ytbnjjpmlaknaoaa", sum := "5c46b7713cbaba49ce3a17f4176035be0b2e9399062d1cae780bd1323599037a", func := "skylight/skylightlaw07.ExpiryStays", spec := "expiryStays", unfollowed := true, recurses := true, apart := false }
def ExpiryStaysSaid : Prop := expiryStaysRow.holds Try.pinned (OpenSpec.ofChange expiryStaysSpec)

/-- ITS FALSE NEIGHBOUR: 'it returns false'. Refute it at one input. -/
def expiryStaysWrong : ChangeSpec := { name := "expiryStays", fn := fun _ => fun
  | [d1, d2, d3] => { results := [.lit (.bool false)], args := [d1, d2, d3] }
  | _ => none }
def ExpiryStaysWrongFalsely : Prop := expiryStaysRow.holds Try.pinned (OpenSpec.ofChange expiryStaysWrong)

/-- 'skylightlaw08.EstimateTells': WHATEVER THE INPUT: true; the input reads as it did. -/
def estimateTellsSpec : ChangeSpec := { name := "estimateTells", fn := fun _ => fun
  | [d1, d2, d3] => { results := [.lit (.bool true)], args := [d1, d2, d3] }
  | _ => none }
def estimateTellsRow : OpenClaim := { program := "ytbnjjpmlaknaoaa", sum := "5c46b7713cbaba49ce3a17f4176035be0b2e9399062d1cae780bd1323599037a", func := "skylight/skylightlaw08.EstimateTells", spec := "estimateTells", unfollowed := true, recurses := true, apart := false }
def EstimateTellsSaid : Prop := estimateTellsRow.holds Try.pinned (OpenSpec.ofChange estimateTellsSpec)

/-- ITS FALSE NEIGHBOUR: 'it returns false'. Refute it at one input. -/
def estimateTellsWrong : ChangeSpec := { name := "estimateTells", fn := fun _ => fun
  | [d1, d2, d3] => { results := [.lit (.bool false)], args := [d1, d2, d3] }
  | _ => none }
def EstimateTellsWrongFalsely : Prop := estimateTellsRow.holds Try.pinned (OpenSpec.ofChange estimateTellsWrong)

/-- 'skylightlaw08.EstimateBound': WHATEVER THE INPUT: true; the input reads as it did. -/
def estimateBoundSpec : ChangeSpec := { name := "estimateBound", fn := fun _ => fun
  | [d1, d2, d3] => { results := [.lit (.bool true)], args := [d1, d2, d3] }
  | _ => none }
def estimateBoundRow : OpenClaim := { program := "ytbnjjpmlaknaoaa", sum := "5c46b7713cbaba49ce3a17f4176035be0b2e9399062d1cae780bd1323599037a", func := "skylight/skylightlaw08.EstimateBound", spec := "estimateBound", unfollowed := true, recurses := true, apart := false }
def EstimateBoundSaid : Prop := estimateBoundRow.holds Try.pinned (OpenSpec.ofChange estimateBoundSpec)

/-- ITS FALSE NEIGHBOUR: 'it returns false'. Refute it at one input. -/
def estimateBoundWrong : ChangeSpec := { name := "estimateBound", fn := fun _ => fun
  | [d1, d2, d3] => { results := [.lit (.bool false)], args := [d1, d2, d3] }
  | _ => none }
def EstimateBoundWrongFalsely : Prop := estimateBoundRow.holds Try.pinned (OpenSpec.ofChange estimateBoundWrong)

/-- 'skylightlaw08.EstimateParts': WHATEVER THE INPUT: true; the input reads as it did. -/
def estimatePartsSpec : ChangeSpec := { name := "estimateParts", fn := fun _ => fun
  | [d1, d2, d3] => { results := [.lit (.bool true)], args := [d1, d2, d3] }
  | _ => none }
def estimatePartsRow : OpenClaim := { program := "ytbnjjpmlaknaoaa", sum := "5c46b7713cbaba49ce3a17f4176035be0b2e9399062d1cae780bd1323599037a", func := "skylight/skylightlaw08.EstimateParts", spec := "estimateParts", unfollowed := true, recurses := true, apart := false }
def EstimatePartsSaid : Prop := estimatePartsRow.holds Try.pinned (OpenSpec.ofChange estimatePartsSpec)

/-- ITS FALSE NEIGHBOUR: 'it returns false'. Refute it at one input. -/
def estimatePartsWrong : ChangeSpec := { name := "estimateParts", fn := fun _ => fun
  | [d1, d2, d3] => { results := [.lit (.bool false)], args := [d1, d2, d3] }
  | _ => none }
def EstimatePartsWrongFalsely : Prop := estimatePartsRow.holds Try.pinned (OpenSpec.ofChange estimatePartsWrong)

/-- 'skylightlaw08.EstimateGrows': WHATEVER THE INPUT: true; the input reads as it did. -/
def estimateGrowsSpec : ChangeSpec := { name := "estimateGrows", fn := fun _ => fun
  | [d1, d2, d3] => { results := [.lit (.bool true)], args := [d1, d2, d3] }
  | _ => none }
def estimateGrowsRow : OpenClaim := { program := "ytbnjjpmlaknaoaa", sum := "5c46b7713cbaba49ce3a17f4176035be0b2e9399062d1cae780bd1323599037a", func := "skylight/skylightlaw08.EstimateGrows", spec := "estimateGrows", unfollowed := true, recurses := true, apart := false }
def EstimateGrowsSaid : Prop := estimateGrowsRow.holds Try.pinned (OpenSpec.ofChange estimateGrowsSpec)

/-- ITS FALSE NEIGHBOUR: 'it returns false'. Refute it at one input. -/
def estimateGrowsWrong : ChangeSpec := { name := "estimateGrows", fn := fun _ => fun
  | [d1, d2, d3] => { results := [.lit (.bool false)], args := [d1, d2, d3] }
  | _ => none }
def EstimateGrowsWrongFalsely : Prop := estimateGrowsRow.holds Try.pinned (OpenSpec.ofChange estimateGrowsWrong)

/-- 'skylightlaw05.LevelTells': WHATEVER THE INPUT: true; the input reads as it did. -/
def levelTellsSpec : ChangeSpec := { name := "levelTells", fn := fun _ => fun
  | [d1, d2, d3] => { results := [.lit (.bool true)], args := [d1, d2, d3] }
  | _ => none }
def levelTellsRow : OpenClaim := { program := "ytbnjjpmlaknaoaa", sum := "5c46b7713cbaba49ce3a17f4176035be0b2e9399062d1cae780bd1323599037a", func := "skylight/skylightlaw05.LevelTells", spec := "levelTells", unfollowed := true, recurses := true, apart := false }
def LevelTellsSaid : Prop := levelTellsRow.holds Try.pinned (OpenSpec.ofChange levelTellsSpec)

/-- ITS FALSE NEIGHBOUR: 'it returns false'. Refute it at one input. -/
def levelTellsWrong : ChangeSpec := { name := "levelTells", fn := fun _ => fun
  | [d1, d2, d3] => { results := [.lit (.bool false)], args := [d1, d2, d3] }
  | _ => none }
def LevelTellsWrongFalsely : Prop := levelTellsRow.holds Try.pinned (OpenSpec.ofChange levelTellsWrong)

/-- 'skylightlaw05.LevelOnes': WHATEVER THE INPUT: true; the input reads as it did. -/
def levelOnesSpec : ChangeSpec := { name := "levelOnes", fn := fun _ => fun
  | [d1, d2, d3] => { results := [.lit (.bool true)], args := [d1, d2, d3] }
  | _ => none }
def levelOnesRow : OpenClaim := { program := "ytbnjjpmlaknaoaa", sum := "5c46b7713cbaba49ce3a17f4176035be0b2e9399062d1cae780bd1323599037a", func := "skylight/skylightlaw05.LevelOnes", spec := "levelOnes", unfollowed := true, recurses := true, apart := false }
def LevelOnesSaid : Prop := levelOnesRow.holds Try.pinned (OpenSpec.ofChange levelOnesSpec)

/-- ITS FALSE NEIGHBOUR: 'it returns false'. Refute it at one input. -/
def levelOnesWrong : ChangeSpec := { name := "levelOnes", fn := fun _ => fun
  | [d1, d2, d3] => { results := [.lit (.bool false)], args := [d1, d2, d3] }
  | _ => none }
def LevelOnesWrongFalsely : Prop := levelOnesRow.holds Try.pinned (OpenSpec.ofChange levelOnesWrong)

/-- 'skylightlaw05.LevelSums': WHATEVER THE INPUT: true; the input reads as it did. -/
def levelSumsSpec : ChangeSpec := { name := "levelSums", fn := fun _ => fun
  | [d1, d2, d3] => { results := [.lit (.bool true)], args := [d1, d2, d3] }
  | _ => none }
def levelSumsRow : OpenClaim := { program := "ytbnjjpmlaknaoaa", sum := "5c46b7713cbaba49ce3a17f4176035be0b2e9399062d1cae780bd1323599037a", func := "skylight/skylightlaw05.LevelSums", spec := "levelSums", unfollowed := true, recurses := true, apart := false }
def LevelSumsSaid : Prop := levelSumsRow.holds Try.pinned (OpenSpec.ofChange levelSumsSpec)

/-- ITS FALSE NEIGHBOUR: 'it returns false'. Refute it at one input. -/
def levelSumsWrong : ChangeSpec := { name := "levelSums", fn := fun _ => fun
  | [d1, d2, d3] => { results := [.lit (.bool false)], args := [d1, d2, d3] }
  | _ => none }
def LevelSumsWrongFalsely : Prop := levelSumsRow.holds Try.pinned (OpenSpec.ofChange levelSumsWrong)

/-- 'skylightlaw05.LevelTwice': WHATEVER THE INPUT: true; the input reads as it did. -/
def levelTwiceSpec : ChangeSpec := { name := "levelTwice", fn := fun _ => fun
  | [d1, d2, d3] => { results := [.lit (.bool true)], args := [d1, d2, d3] }
  | _ => none }
def levelTwiceRow : OpenClaim := { program := "ytbnjjpmlaknaoaa", sum := "5c46b7713cbaba49ce3a17f4176035be0b2e9399062d1cae780bd1323599037a", func := "skylight/skylightlaw05.LevelTwice", spec := "levelTwice", unfollowed := true, recurses := true, apart := false }
def LevelTwiceSaid : Prop := levelTwiceRow.holds Try.pinned (OpenSpec.ofChange levelTwiceSpec)

/-- ITS FALSE NEIGHBOUR: 'it returns false'. Refute it at one input. -/
def levelTwiceWrong : ChangeSpec := { name := "levelTwice", fn := fun _ => fun
  | [d1, d2, d3] => { results := [.lit (.bool false)], args := [d1, d2, d3] }
  | _ => none }
def LevelTwiceWrongFalsely : Prop := levelTwiceRow.holds Try.pinned (OpenSpec.ofChange levelTwiceWrong)

/-- 'skylightlaw05.LevelOrder': WHATEVER THE INPUT: true; the input reads as it did. -/
def levelOrderSpec : ChangeSpec := { name := "levelOrder", fn := fun _ => fun
  | [d1, d2, d3] => { results := [.lit (.bool true)], args := [d1, d2, d3] }
  | _ => none }
def levelOrderRow : OpenClaim := { program := "ytbnjjpmlaknaoaa", sum := "5c46b7713cbaba49ce3a17f4176035be0b2e9399062d1cae780bd1323599037a", func := "skylight/skylightlaw05.LevelOrder", spec := "levelOrder", unfollowed := true, recurses := true, apart := false }
def LevelOrderSaid : Prop := levelOrderRow.holds Try.pinned (OpenSpec.ofChange levelOrderSpec)

/-- ITS FALSE NEIGHBOUR: 'it returns false'. Refute it at one input. -/
def levelOrderWrong : ChangeSpec := { name := "levelOrder", fn := fun _ => fun
  | [d1, d2, d3] => { results := [.lit (.bool false)], args := [d1, d2, d3] }
  | _ => none }
def LevelOrderWrongFalsely : Prop := levelOrderRow.holds Try.pinned (OpenSpec.ofChange levelOrderWrong)

/-- 'skylightlaw08.EstimateDrops': WHATEVER THE INPUT: true; the input reads as it did. -/
def estimateDropsSpec : ChangeSpec := { name := "estimateDrops", fn := fun _ => fun
  | [d1, d2, d3] => { results := [.lit (.bool true)], args := [d1, d2, d3] }
  | _ => none }
def estimateDropsRow : OpenClaim := { program := "ytbnjjpmlaknaoaa", sum := "5c46b7713cbaba49ce3a17f4176035be0b2e9399062d1cae780bd1323599037a", func := "skylight/skylightlaw08.EstimateDrops", spec := "estimateDrops", unfollowed := true, recurses := true, apart := false }
def EstimateDropsSaid : Prop := estimateDropsRow.holds Try.pinned (OpenSpec.ofChange estimateDropsSpec)

/-- ITS FALSE NEIGHBOUR: 'it returns false'. Refute it at one input. -/
def estimateDropsWrong : ChangeSpec := { name := "estimateDrops", fn := fun _ => fun
  | [d1, d2, d3] => { results := [.lit (.bool false)], args := [d1, d2, d3] }
  | _ => none }
def EstimateDropsWrongFalsely : Prop := estimateDropsRow.holds Try.pinned (OpenSpec.ofChange estimateDropsWrong)

/-- 'skylightlaw07.ExpiryTwice': WHATEVER THE INPUT: true; the input reads as it did. -/
def expiryTwiceSpec : ChangeSpec := { name := "expiryTwice", fn := fun _ => fun
  | [d1, d2, d3] => { results := [.lit (.bool true)], args := [d1, d2, d3] }
  | _ => none }
def expiryTwiceRow : OpenClaim := { program := "ytbnjjpmlaknaoaa", sum := "5c46b7713cbaba49ce3a17f4176035be0b2e9399062d1cae780bd1323599037a", func := "skylight/skylightlaw07.ExpiryTwice", spec := "expiryTwice", unfollowed := true, recurses := true, apart := false }
def ExpiryTwiceSaid : Prop := expiryTwiceRow.holds Try.pinned (OpenSpec.ofChange expiryTwiceSpec)

/-- ITS FALSE NEIGHBOUR: 'it returns false'. Refute it at one input. -/
def expiryTwiceWrong : ChangeSpec := { name := "expiryTwice", fn := fun _ => fun
  | [d1, d2, d3] => { results := [.lit (.bool false)], args := [d1, d2, d3] }
  | _ => none }
def ExpiryTwiceWrongFalsely : Prop := expiryTwiceRow.holds Try.pinned (OpenSpec.ofChange expiryTwiceWrong)

/-- 'skylightlaw07.ExpiryLater': WHATEVER THE INPUT: true; the input reads as it did. -/
def expiryLaterSpec : ChangeSpec := { name := "expiryLater", fn := fun _ => fun
  | [d1, d2, d3] => { results := [.lit (.bool true)], args := [d1, d2, d3] }
  | _ => none }
def expiryLaterRow : OpenClaim := { program := "ytbnjjpmlaknaoaa", sum := "5c46b7713cbaba49ce3a17f4176035be0b2e9399062d1cae780bd1323599037a", func := "skylight/skylightlaw07.ExpiryLater", spec := "expiryLater", unfollowed := true, recurses := true, apart := false }
def ExpiryLaterSaid : Prop := expiryLaterRow.holds Try.pinned (OpenSpec.ofChange expiryLaterSpec)

/-- ITS FALSE NEIGHBOUR: 'it returns false'. Refute it at one input. -/
def expiryLaterWrong : ChangeSpec := { name := "expiryLater", fn := fun _ => fun
  | [d1, d2, d3] => { results := [.lit (.bool false)], args := [d1, d2, d3] }
  | _ => none }
def ExpiryLaterWrongFalsely : Prop := expiryLaterRow.holds Try.pinned (OpenSpec.ofChange expiryLaterWrong)

/-- 'skylightlaw09.CheckTells': WHATEVER THE INPUT: true; the input reads as it did. -/
def checkTellsSpec : ChangeSpec := { name := "checkTells", fn := fun _ => fun
  | [d1, d2, d3] => { results := [.lit (.bool true)], args := [d1, d2, d3] }
  | _ => none }
def checkTellsRow : OpenClaim := { program := "ytbnjjpmlaknaoaa", sum := "5c46b7713cbaba49ce3a17f4176035be0b2e9399062d1cae780bd1323599037a", func := "skylight/skylightlaw09.CheckTells", spec := "checkTells", unfollowed := true, recurses := true, apart := false }
def CheckTellsSaid : Prop := checkTellsRow.holds Try.pinned (OpenSpec.ofChange checkTellsSpec)

/-- ITS FALSE NEIGHBOUR: 'it returns false'. Refute it at one input. -/
def checkTellsWrong : ChangeSpec := { name := "checkTells", fn := fun _ => fun
  | [d1, d2, d3] => { results := [.lit (.bool false)], args := [d1, d2, d3] }
  | _ => none }
def CheckTellsWrongFalsely : Prop := checkTellsRow.holds Try.pinned (OpenSpec.ofChange checkTellsWrong)

/-- 'skylightlaw09.CheckOdd': WHATEVER THE INPUT: true; the input reads as it did. -/
def checkOddSpec : ChangeSpec := { name := "checkOdd", fn := fun _ => fun
  | [d1, d2, d3] => { results := [.lit (.bool true)], args := [d1, d2, d3] }
  | _ => none }
def checkOddRow : OpenClaim := { program := "ytbnjjpmlaknaoaa", sum := "5c46b7713cbaba49ce3a17f4176035be0b2e9399062d1cae780bd1323599037a", func := "skylight/skylightlaw09.CheckOdd", spec := "checkOdd", unfollowed := true, recurses := true, apart := false }
def CheckOddSaid : Prop := checkOddRow.holds Try.pinned (OpenSpec.ofChange checkOddSpec)

/-- ITS FALSE NEIGHBOUR: 'it returns false'. Refute it at one input. -/
def checkOddWrong : ChangeSpec := { name := "checkOdd", fn := fun _ => fun
  | [d1, d2, d3] => { results := [.lit (.bool false)], args := [d1, d2, d3] }
  | _ => none }
def CheckOddWrongFalsely : Prop := checkOddRow.holds Try.pinned (OpenSpec.ofChange checkOddWrong)

/-- 'skylightlaw09.CheckGrows': WHATEVER THE INPUT: true; the input reads as it did. -/
def checkGrowsSpec : ChangeSpec := { name := "checkGrows", fn := fun _ => fun
  | [d1, d2, d3] => { results := [.lit (.bool true)], args := [d1, d2, d3] }
  | _ => none }
def checkGrowsRow : OpenClaim := { program := "ytbnjjpmlaknaoaa", sum := "5c46b7713cbaba49ce3a17f4176035be0b2e9399062d1cae780bd1323599037a", func := "skylight/skylightlaw09.CheckGrows", spec := "checkGrows", unfollowed := true, recurses := true, apart := false }
def CheckGrowsSaid : Prop := checkGrowsRow.holds Try.pinned (OpenSpec.ofChange checkGrowsSpec)

/-- ITS FALSE NEIGHBOUR: 'it returns false'. Refute it at one input. -/
def checkGrowsWrong : ChangeSpec := { name := "checkGrows", fn := fun _ => fun
  | [d1, d2, d3] => { results := [.lit (.bool false)], args := [d1, d2, d3] }
  | _ => none }
def CheckGrowsWrongFalsely : Prop := checkGrowsRow.holds Try.pinned (OpenSpec.ofChange checkGrowsWrong)

/-- 'skylightlaw09.CheckMade': WHATEVER THE INPUT: true; the input reads as it did. -/
def checkMadeSpec : ChangeSpec := { name := "checkMade", fn := fun _ => fun
  | [d1, d2, d3] => { results := [.lit (.bool true)], args := [d1, d2, d3] }
  | _ => none }
def checkMadeRow : OpenClaim := { program := "ytbnjjpmlaknaoaa", sum := "5c46b7713cbaba49ce3a17f4176035be0b2e9399062d1cae780bd1323599037a", func := "skylight/skylightlaw09.CheckMade", spec := "checkMade", unfollowed := true, recurses := true, apart := false }
def CheckMadeSaid : Prop := checkMadeRow.holds Try.pinned (OpenSpec.ofChange checkMadeSpec)

/-- ITS FALSE NEIGHBOUR: 'it returns false'. Refute it at one input. -/
def checkMadeWrong : ChangeSpec := { name := "checkMade", fn := fun _ => fun
  | [d1, d2, d3] => { results := [.lit (.bool false)], args := [d1, d2, d3] }
  | _ => none }
def CheckMadeWrongFalsely : Prop := checkMadeRow.holds Try.pinned (OpenSpec.ofChange checkMadeWrong)

/-- 'skylightlaw09.CheckBound': WHATEVER THE INPUT: true; the input reads as it did. -/
def checkBoundSpec : ChangeSpec := { name := "checkBound", fn := fun _ => fun
  | [d1, d2, d3] => { results := [.lit (.bool true)], args := [d1, d2, d3] }
  | _ => none }
def checkBoundRow : OpenClaim := { program := "ytbnjjpmlaknaoaa", sum := "5c46b7713cbaba49ce3a17f4176035be0b2e9399062d1cae780bd1323599037a", func := "skylight/skylightlaw09.CheckBound", spec := "checkBound", unfollowed := true, recurses := true, apart := false }
def CheckBoundSaid : Prop := checkBoundRow.holds Try.pinned (OpenSpec.ofChange checkBoundSpec)

/-- ITS FALSE NEIGHBOUR: 'it returns false'. Refute it at one input. -/
def checkBoundWrong : ChangeSpec := { name := "checkBound", fn := fun _ => fun
  | [d1, d2, d3] => { results := [.lit (.bool false)], args := [d1, d2, d3] }
  | _ => none }
def CheckBoundWrongFalsely : Prop := checkBoundRow.holds Try.pinned (OpenSpec.ofChange checkBoundWrong)

/-- 'skylightlaw07.ExpiryShape': WHATEVER THE INPUT: true; the input reads as it did. -/
def expiryShapeSpec : ChangeSpec := { name := "expiryShape", fn := fun _ => fun
  | [d1, d2, d3] => { results := [.lit (.bool true)], args := [d1, d2, d3] }
  | _ => none }
def expiryShapeRow : OpenClaim := { program := "ytbnjjpmlaknaoaa", sum := "5c46b7713cbaba49ce3a17f4176035be0b2e9399062d1cae780bd1323599037a", func := "skylight/skylightlaw07.ExpiryShape", spec := "expiryShape", unfollowed := true, recurses := true, apart := false }
def ExpiryShapeSaid : Prop := expiryShapeRow.holds Try.pinned (OpenSpec.ofChange expiryShapeSpec)

/-- ITS FALSE NEIGHBOUR: 'it returns false'. Refute it at one input. -/
def expiryShapeWrong : ChangeSpec := { name := "expiryShape", fn := fun _ => fun
  | [d1, d2, d3] => { results := [.lit (.bool false)], args := [d1, d2, d3] }
  | _ => none }
def ExpiryShapeWrongFalsely : Prop := expiryShapeRow.holds Try.pinned (OpenSpec.ofChange expiryShapeWrong)

/-- 'skylightlaw06.HistPlays': WHATEVER THE INPUT: true; the input reads as it did. -/
def histPlaysSpec : ChangeSpec := { name := "histPlays", fn := fun _ => fun
  | [d1, d2] => { results := [.lit (.bool true)], args := [d1, d2] }
  | _ => none }
def histPlaysRow : OpenClaim := { program := "ytbnjjpmlaknaoaa", sum := "5c46b7713cbaba49ce3a17f4176035be0b2e9399062d1cae780bd1323599037a", func := "skylight/skylightlaw06.HistPlays", spec := "histPlays", unfollowed := true, recurses := true, apart := false }
def HistPlaysSaid : Prop := histPlaysRow.holds Try.pinned (OpenSpec.ofChange histPlaysSpec)

/-- ITS FALSE NEIGHBOUR: 'it returns false'. Refute it at one input. -/
def histPlaysWrong : ChangeSpec := { name := "histPlays", fn := fun _ => fun
  | [d1, d2] => { results := [.lit (.bool false)], args := [d1, d2] }
  | _ => none }
def HistPlaysWrongFalsely : Prop := histPlaysRow.holds Try.pinned (OpenSpec.ofChange histPlaysWrong)

/-- 'skylightlaw06.HistRefuses': WHATEVER THE INPUT: true; the input reads as it did. -/
def histRefusesSpec : ChangeSpec := { name := "histRefuses", fn := fun _ => fun
  | [d1, d2, d3] => { results := [.lit (.bool true)], args := [d1, d2, d3] }
  | _ => none }
def histRefusesRow : OpenClaim := { program := "ytbnjjpmlaknaoaa", sum := "5c46b7713cbaba49ce3a17f4176035be0b2e9399062d1cae780bd1323599037a", func := "skylight/skylightlaw06.HistRefuses", spec := "histRefuses", unfollowed := true, recurses := true, apart := false }
def HistRefusesSaid : Prop := histRefusesRow.holds Try.pinned (OpenSpec.ofChange histRefusesSpec)

/-- ITS FALSE NEIGHBOUR: 'it returns false'. Refute it at one input. -/
def histRefusesWrong : ChangeSpec := { name := "histRefuses", fn := fun _ => fun
  | [d1, d2, d3] => { results := [.lit (.bool false)], args := [d1, d2, d3] }
  | _ => none }
def HistRefusesWrongFalsely : Prop := histRefusesRow.holds Try.pinned (OpenSpec.ofChange histRefusesWrong)

/-- 'skylightlaw06.HistUnits': WHATEVER THE INPUT: true; the input reads as it did. -/
def histUnitsSpec : ChangeSpec := { name := "histUnits", fn := fun _ => fun
  | [d1, d2, d3] => { results := [.lit (.bool true)], args := [d1, d2, d3] }
  | _ => none }
def histUnitsRow : OpenClaim := { program := "ytbnjjpmlaknaoaa", sum := "5c46b7713cbaba49ce3a17f4176035be0b2e9399062d1cae780bd1323599037a", func := "skylight/skylightlaw06.HistUnits", spec := "histUnits", unfollowed := true, recurses := true, apart := false }
def HistUnitsSaid : Prop := histUnitsRow.holds Try.pinned (OpenSpec.ofChange histUnitsSpec)

/-- ITS FALSE NEIGHBOUR: 'it returns false'. Refute it at one input. -/
def histUnitsWrong : ChangeSpec := { name := "histUnits", fn := fun _ => fun
  | [d1, d2, d3] => { results := [.lit (.bool false)], args := [d1, d2, d3] }
  | _ => none }
def HistUnitsWrongFalsely : Prop := histUnitsRow.holds Try.pinned (OpenSpec.ofChange histUnitsWrong)

/-- 'skylightlaw06.HistSums': WHATEVER THE INPUT: true; the input reads as it did. -/
def histSumsSpec : ChangeSpec := { name := "histSums", fn := fun _ => fun
  | [d1, d2] => { results := [.lit (.bool true)], args := [d1, d2] }
  | _ => none }
def histSumsRow : OpenClaim := { program := "ytbnjjpmlaknaoaa", sum := "5c46b7713cbaba49ce3a17f4176035be0b2e9399062d1cae780bd1323599037a", func := "skylight/skylightlaw06.HistSums", spec := "histSums", unfollowed := true, recurses := true, apart := false }
def HistSumsSaid : Prop := histSumsRow.holds Try.pinned (OpenSpec.ofChange histSumsSpec)

/-- ITS FALSE NEIGHBOUR: 'it returns false'. Refute it at one input. -/
def histSumsWrong : ChangeSpec := { name := "histSums", fn := fun _ => fun
  | [d1, d2] => { results := [.lit (.bool false)], args := [d1, d2] }
  | _ => none }
def HistSumsWrongFalsely : Prop := histSumsRow.holds Try.pinned (OpenSpec.ofChange histSumsWrong)

/-- 'skylightlaw06.HistShape': WHATEVER THE INPUT: true; the input reads as it did. -/
def histShapeSpec : ChangeSpec := { name := "histShape", fn := fun _ => fun
  | [d1, d2] => { results := [.lit (.bool true)], args := [d1, d2] }
  | _ => none }
def histShapeRow : OpenClaim := { program := "ytbnjjpmlaknaoaa", sum := "5c46b7713cbaba49ce3a17f4176035be0b2e9399062d1cae780bd1323599037a", func := "skylight/skylightlaw06.HistShape", spec := "histShape", unfollowed := true, recurses := true, apart := false }
def HistShapeSaid : Prop := histShapeRow.holds Try.pinned (OpenSpec.ofChange histShapeSpec)

/-- ITS FALSE NEIGHBOUR: 'it returns false'. Refute it at one input. -/
def histShapeWrong : ChangeSpec := { name := "histShape", fn := fun _ => fun
  | [d1, d2] => { results := [.lit (.bool false)], args := [d1, d2] }
  | _ => none }
def HistShapeWrongFalsely : Prop := histShapeRow.holds Try.pinned (OpenSpec.ofChange histShapeWrong)

/-- 'skylightlaw06.HistSame': WHATEVER THE INPUT: true; the input reads as it did. -/
def histSameSpec : ChangeSpec := { name := "histSame", fn := fun _ => fun
  | [d1, d2, d3] => { results := [.lit (.bool true)], args := [d1, d2, d3] }
  | _ => none }
def histSameRow : OpenClaim := { program := "ytbnjjpmlaknaoaa", sum := "5c46b7713cbaba49ce3a17f4176035be0b2e9399062d1cae780bd1323599037a", func := "skylight/skylightlaw06.HistSame", spec := "histSame", unfollowed := true, recurses := true, apart := false }
def HistSameSaid : Prop := histSameRow.holds Try.pinned (OpenSpec.ofChange histSameSpec)

/-- ITS FALSE NEIGHBOUR: 'it returns false'. Refute it at one input. -/
def histSameWrong : ChangeSpec := { name := "histSame", fn := fun _ => fun
  | [d1, d2, d3] => { results := [.lit (.bool false)], args := [d1, d2, d3] }
  | _ => none }
def HistSameWrongFalsely : Prop := histSameRow.holds Try.pinned (OpenSpec.ofChange histSameWrong)

/- THE SECOND FORM. 'bulk': how many values and letters a reading holds, each counted each time it is reached (what is shared counts as often as it is met; a slice's spare places count too). A statement '..UptoSaid' is the law's where the arguments, and the package variables that the reading takes, are together of bulk at most 1048576: NARROWER than '..Said'. Prove '..Said' where nothing that the law and all that it calls make is longer than what came in: it says more and counts as full. Else prove '..UptoSaid'. A law counts once. -/
mutual
def uptoBulk {H : Type} : DataW H → Nat
  | .lit (.string bytes) => bytes.length + 1
  | .lit _ => 1
  | .nil => 1
  | .ptr d => uptoBulk d + 1
  | .slice elems spare => uptoBulkAll elems + uptoBulkAll spare + 1
  | .agg parts => uptoBulkAll parts + 1
  | .iface _ d => uptoBulk d + 1
  | .map entries => uptoBulkEntries entries + 1
  | .held _ => 1
def uptoBulkAll {H : Type} : List (DataW H) → Nat
  | [] => 0
  | d :: r => uptoBulk d + uptoBulkAll r
def uptoBulkEntries {H : Type} : List (Lit × DataW H) → Nat
  | [] => 0
  | x :: r => uptoBulkEntry x + uptoBulkEntries r
def uptoBulkEntry {H : Type} : Lit × DataW H → Nat
  | (.string bytes, d) => bytes.length + uptoBulk d + 1
  | (_, d) => uptoBulk d + 1
 end
def uptoSmall : (H : Type) → List (DataW H) → Bool := fun _ ds => decide (uptoBulkAll ds ≤ 1048576)
def OpenSpec.upto (s : _root_.Go.ChangeSpec) : _root_.Go.OpenSpec := { _root_.Go.OpenSpec.ofChange s with cond := some uptoSmall }

/-- 'skylightlaw07.ExpiryTells', WHERE WHAT IT READS IS OF BULK AT MOST 1048576: true; the input reads as it did. -/
def expiryTellsUptoRow : OpenClaim := { program := "ytbnjjpmlaknaoaa", sum := "5c46b7713cbaba49ce3a17f4176035be0b2e9399062d1cae780bd1323599037a", func := "skylight/skylightlaw07.ExpiryTells", spec := "expiryTells", unfollowed := true, recurses := true, apart := false, narrowed := true }
def ExpiryTellsUptoSaid : Prop := expiryTellsUptoRow.holds Try.pinned (OpenSpec.upto expiryTellsSpec)

/-- 'skylightlaw07.ExpiryStays', WHERE WHAT IT READS IS OF BULK AT MOST 1048576: true; the input reads as it did. -/
def expiryStaysUptoRow : OpenClaim := { program := "ytbnjjpmlaknaoaa", sum := "5c46b7713cbaba49ce3a17f4176035be0b2e9399062d1cae780bd1323599037a", func := "skylight/skylightlaw07.ExpiryStays", spec := "expiryStays", unfollowed := true, recurses := true, apart := false, narrowed := true }
def ExpiryStaysUptoSaid : Prop := expiryStaysUptoRow.holds Try.pinned (OpenSpec.upto expiryStaysSpec)

/-- 'skylightlaw08.EstimateTells', WHERE WHAT IT READS IS OF BULK AT MOST 1048576: true; the input reads as it did. -/
def estimateTellsUptoRow : OpenClaim := { program := "ytbnjjpmlaknaoaa", sum := "5c46b7713cbaba49ce3a17f4176035be0b2e9399062d1cae780bd1323599037a", func := "skylight/skylightlaw08.EstimateTells", spec := "estimateTells", unfollowed := true, recurses := true, apart := false, narrowed := true }
def EstimateTellsUptoSaid : Prop := estimateTellsUptoRow.holds Try.pinned (OpenSpec.upto estimateTellsSpec)

/-- 'skylightlaw08.EstimateBound', WHERE WHAT IT READS IS OF BULK AT MOST 1048576: true; the input reads as it did. -/
def estimateBoundUptoRow : OpenClaim := { program := "ytbnjjpmlaknaoaa", sum := "5c46b7713cbaba49ce3a17f4176035be0b2e9399062d1cae780bd1323599037a", func := "skylight/skylightlaw08.EstimateBound", spec := "estimateBound", unfollowed := true, recurses := true, apart := false, narrowed := true }
def EstimateBoundUptoSaid : Prop := estimateBoundUptoRow.holds Try.pinned (OpenSpec.upto estimateBoundSpec)

/-- 'skylightlaw08.EstimateParts', WHERE WHAT IT READS IS OF BULK AT MOST 1048576: true; the input reads as it did. -/
def estimatePartsUptoRow : OpenClaim := { program := "ytbnjjpmlaknaoaa", sum := "5c46b7713cbaba49ce3a17f4176035be0b2e9399062d1cae780bd1323599037a", func := "skylight/skylightlaw08.EstimateParts", spec := "estimateParts", unfollowed := true, recurses := true, apart := false, narrowed := true }
def EstimatePartsUptoSaid : Prop := estimatePartsUptoRow.holds Try.pinned (OpenSpec.upto estimatePartsSpec)

/-- 'skylightlaw08.EstimateGrows', WHERE WHAT IT READS IS OF BULK AT MOST 1048576: true; the input reads as it did. -/
def estimateGrowsUptoRow : OpenClaim := { program := "ytbnjjpmlaknaoaa", sum := "5c46b7713cbaba49ce3a17f4176035be0b2e9399062d1cae780bd1323599037a", func := "skylight/skylightlaw08.EstimateGrows", spec := "estimateGrows", unfollowed := true, recurses := true, apart := false, narrowed := true }
def EstimateGrowsUptoSaid : Prop := estimateGrowsUptoRow.holds Try.pinned (OpenSpec.upto estimateGrowsSpec)

/-- 'skylightlaw05.LevelTells', WHERE WHAT IT READS IS OF BULK AT MOST 1048576: true; the input reads as it did. -/
def levelTellsUptoRow : OpenClaim := { program := "ytbnjjpmlaknaoaa", sum := "5c46b7713cbaba49ce3a17f4176035be0b2e9399062d1cae780bd1323599037a", func := "skylight/skylightlaw05.LevelTells", spec := "levelTells", unfollowed := true, recurses := true, apart := false, narrowed := true }
def LevelTellsUptoSaid : Prop := levelTellsUptoRow.holds Try.pinned (OpenSpec.upto levelTellsSpec)

/-- 'skylightlaw05.LevelOnes', WHERE WHAT IT READS IS OF BULK AT MOST 1048576: true; the input reads as it did. -/
def levelOnesUptoRow : OpenClaim := { program := "ytbnjjpmlaknaoaa", sum := "5c46b7713cbaba49ce3a17f4176035be0b2e9399062d1cae780bd1323599037a", func := "skylight/skylightlaw05.LevelOnes", spec := "levelOnes", unfollowed := true, recurses := true, apart := false, narrowed := true }
def LevelOnesUptoSaid : Prop := levelOnesUptoRow.holds Try.pinned (OpenSpec.upto levelOnesSpec)

/-- 'skylightlaw05.LevelSums', WHERE WHAT IT READS IS OF BULK AT MOST 1048576: true; the input reads as it did. -/
def levelSumsUptoRow : OpenClaim := { program := "ytbnjjpmlaknaoaa", sum := "5c46b7713cbaba49ce3a17f4176035be0b2e9399062d1cae780bd1323599037a", func := "skylight/skylightlaw05.LevelSums", spec := "levelSums", unfollowed := true, recurses := true, apart := false, narrowed := true }
def LevelSumsUptoSaid : Prop := levelSumsUptoRow.holds Try.pinned (OpenSpec.upto levelSumsSpec)

/-- 'skylightlaw05.LevelTwice', WHERE WHAT IT READS IS OF BULK AT MOST 1048576: true; the input reads as it did. -/
def levelTwiceUptoRow : OpenClaim := { program := "ytbnjjpmlaknaoaa", sum := "5c46b7713cbaba49ce3a17f4176035be0b2e9399062d1cae780bd1323599037a", func := "skylight/skylightlaw05.LevelTwice", spec := "levelTwice", unfollowed := true, recurses := true, apart := false, narrowed := true }
def LevelTwiceUptoSaid : Prop := levelTwiceUptoRow.holds Try.pinned (OpenSpec.upto levelTwiceSpec)

/-- 'skylightlaw05.LevelOrder', WHERE WHAT IT READS IS OF BULK AT MOST 1048576: true; the input reads as it did. -/
def levelOrderUptoRow : OpenClaim := { program := "ytbnjjpmlaknaoaa", sum := "5c46b7713cbaba49ce3a17f4176035be0b2e9399062d1cae780bd1323599037a", func := "skylight/skylightlaw05.LevelOrder", spec := "levelOrder", unfollowed := true, recurses := true, apart := false, narrowed := true }
def LevelOrderUptoSaid : Prop := levelOrderUptoRow.holds Try.pinned (OpenSpec.upto levelOrderSpec)

/-- 'skylightlaw08.EstimateDrops', WHERE WHAT IT READS IS OF BULK AT MOST 1048576: true; the input reads as it did. -/
def estimateDropsUptoRow : OpenClaim := { program := "ytbnjjpmlaknaoaa", sum := "5c46b7713cbaba49ce3a17f4176035be0b2e9399062d1cae780bd1323599037a", func := "skylight/skylightlaw08.EstimateDrops", spec := "estimateDrops", unfollowed := true, recurses := true, apart := false, narrowed := true }
def EstimateDropsUptoSaid : Prop := estimateDropsUptoRow.holds Try.pinned (OpenSpec.upto estimateDropsSpec)

/-- 'skylightlaw07.ExpiryTwice', WHERE WHAT IT READS IS OF BULK AT MOST 1048576: true; the input reads as it did. -/
def expiryTwiceUptoRow : OpenClaim := { program := "ytbnjjpmlaknaoaa", sum := "5c46b7713cbaba49ce3a17f4176035be0b2e9399062d1cae780bd1323599037a", func := "skylight/skylightlaw07.ExpiryTwice", spec := "expiryTwice", unfollowed := true, recurses := true, apart := false, narrowed := true }
def ExpiryTwiceUptoSaid : Prop := expiryTwiceUptoRow.holds Try.pinned (OpenSpec.upto expiryTwiceSpec)

/-- 'skylightlaw07.ExpiryLater', WHERE WHAT IT READS IS OF BULK AT MOST 1048576: true; the input reads as it did. -/
def expiryLaterUptoRow : OpenClaim := { program := "ytbnjjpmlaknaoaa", sum := "5c46b7713cbaba49ce3a17f4176035be0b2e9399062d1cae780bd1323599037a", func := "skylight/skylightlaw07.ExpiryLater", spec := "expiryLater", unfollowed := true, recurses := true, apart := false, narrowed := true }
def ExpiryLaterUptoSaid : Prop := expiryLaterUptoRow.holds Try.pinned (OpenSpec.upto expiryLaterSpec)

/-- 'skylightlaw09.CheckTells', WHERE WHAT IT READS IS OF BULK AT MOST 1048576: true; the input reads as it did. -/
def checkTellsUptoRow : OpenClaim := { program := "ytbnjjpmlaknaoaa", sum := "5c46b7713cbaba49ce3a17f4176035be0b2e9399062d1cae780bd1323599037a", func := "skylight/skylightlaw09.CheckTells", spec := "checkTells", unfollowed := true, recurses := true, apart := false, narrowed := true }
def CheckTellsUptoSaid : Prop := checkTellsUptoRow.holds Try.pinned (OpenSpec.upto checkTellsSpec)

/-- 'skylightlaw09.CheckOdd', WHERE WHAT IT READS IS OF BULK AT MOST 1048576: true; the input reads as it did. -/
def checkOddUptoRow : OpenClaim := { program := "ytbnjjpmlaknaoaa", sum := "5c46b7713cbaba49ce3a17f4176035be0b2e9399062d1cae780bd1323599037a", func := "skylight/skylightlaw09.CheckOdd", spec := "checkOdd", unfollowed := true, recurses := true, apart := false, narrowed := true }
def CheckOddUptoSaid : Prop := checkOddUptoRow.holds Try.pinned (OpenSpec.upto checkOddSpec)

/-- 'skylightlaw09.CheckGrows', WHERE WHAT IT READS IS OF BULK AT MOST 1048576: true; the input reads as it did. -/
def checkGrowsUptoRow : OpenClaim := { program := "ytbnjjpmlaknaoaa", sum := "5c46b7713cbaba49ce3a17f4176035be0b2e9399062d1cae780bd1323599037a", func := "skylight/skylightlaw09.CheckGrows", spec := "checkGrows", unfollowed := true, recurses := true, apart := false, narrowed := true }
def CheckGrowsUptoSaid : Prop := checkGrowsUptoRow.holds Try.pinned (OpenSpec.upto checkGrowsSpec)

/-- 'skylightlaw09.CheckMade', WHERE WHAT IT READS IS OF BULK AT MOST 1048576: true; the input reads as it did. -/
def checkMadeUptoRow : OpenClaim := { program := "ytbnjjpmlaknaoaa", sum := "5c46b7713cbaba49ce3a17f4176035be0b2e9399062d1cae780bd1323599037a", func := "skylight/skylightlaw09.CheckMade", spec := "checkMade", unfollowed := true, recurses := true, apart := false, narrowed := true }
def CheckMadeUptoSaid : Prop := checkMadeUptoRow.holds Try.pinned (OpenSpec.upto checkMadeSpec)

/-- 'skylightlaw09.CheckBound', WHERE WHAT IT READS IS OF BULK AT MOST 1048576: true; the input reads as it did. -/
def checkBoundUptoRow : OpenClaim := { program := "ytbnjjpmlaknaoaa", sum := "5c46b7713cbaba49ce3a17f4176035be0b2e9399062d1cae780bd1323599037a", func := "skylight/skylightlaw09.CheckBound", spec := "checkBound", unfollowed := true, recurses := true, apart := false, narrowed := true }
def CheckBoundUptoSaid : Prop := checkBoundUptoRow.holds Try.pinned (OpenSpec.upto checkBoundSpec)

/-- 'skylightlaw07.ExpiryShape', WHERE WHAT IT READS IS OF BULK AT MOST 1048576: true; the input reads as it did. -/
def expiryShapeUptoRow : OpenClaim := { program := "ytbnjjpmlaknaoaa", sum := "5c46b7713cbaba49ce3a17f4176035be0b2e9399062d1cae780bd1323599037a", func := "skylight/skylightlaw07.ExpiryShape", spec := "expiryShape", unfollowed := true, recurses := true, apart := false, narrowed := true }
def ExpiryShapeUptoSaid : Prop := expiryShapeUptoRow.holds Try.pinned (OpenSpec.upto expiryShapeSpec)

/-- 'skylightlaw06.HistPlays', WHERE WHAT IT READS IS OF BULK AT MOST 1048576: true; the input reads as it did. -/
def histPlaysUptoRow : OpenClaim := { program := "ytbnjjpmlaknaoaa", sum := "5c46b7713cbaba49ce3a17f4176035be0b2e9399062d1cae780bd1323599037a", func := "skylight/skylightlaw06.HistPlays", spec := "histPlays", unfollowed := true, recurses := true, apart := false, narrowed := true }
def HistPlaysUptoSaid : Prop := histPlaysUptoRow.holds Try.pinned (OpenSpec.upto histPlaysSpec)

/-- 'skylightlaw06.HistRefuses', WHERE WHAT IT READS IS OF BULK AT MOST 1048576: true; the input reads as it did. -/
def histRefusesUptoRow : OpenClaim := { program := "ytbnjjpmlaknaoaa", sum := "5c46b7713cbaba49ce3a17f4176035be0b2e9399062d1cae780bd1323599037a", func := "skylight/skylightlaw06.HistRefuses", spec := "histRefuses", unfollowed := true, recurses := true, apart := false, narrowed := true }
def HistRefusesUptoSaid : Prop := histRefusesUptoRow.holds Try.pinned (OpenSpec.upto histRefusesSpec)

/-- 'skylightlaw06.HistUnits', WHERE WHAT IT READS IS OF BULK AT MOST 1048576: true; the input reads as it did. -/
def histUnitsUptoRow : OpenClaim := { program := "ytbnjjpmlaknaoaa", sum := "5c46b7713cbaba49ce3a17f4176035be0b2e9399062d1cae780bd1323599037a", func := "skylight/skylightlaw06.HistUnits", spec := "histUnits", unfollowed := true, recurses := true, apart := false, narrowed := true }
def HistUnitsUptoSaid : Prop := histUnitsUptoRow.holds Try.pinned (OpenSpec.upto histUnitsSpec)

/-- 'skylightlaw06.HistSums', WHERE WHAT IT READS IS OF BULK AT MOST 1048576: true; the input reads as it did. -/
def histSumsUptoRow : OpenClaim := { program := "ytbnjjpmlaknaoaa", sum := "5c46b7713cbaba49ce3a17f4176035be0b2e9399062d1cae780bd1323599037a", func := "skylight/skylightlaw06.HistSums", spec := "histSums", unfollowed := true, recurses := true, apart := false, narrowed := true }
def HistSumsUptoSaid : Prop := histSumsUptoRow.holds Try.pinned (OpenSpec.upto histSumsSpec)

/-- 'skylightlaw06.HistShape', WHERE WHAT IT READS IS OF BULK AT MOST 1048576: true; the input reads as it did. -/
def histShapeUptoRow : OpenClaim := { program := "ytbnjjpmlaknaoaa", sum := "5c46b7713cbaba49ce3a17f4176035be0b2e9399062d1cae780bd1323599037a", func := "skylight/skylightlaw06.HistShape", spec := "histShape", unfollowed := true, recurses := true, apart := false, narrowed := true }
def HistShapeUptoSaid : Prop := histShapeUptoRow.holds Try.pinned (OpenSpec.upto histShapeSpec)

/-- 'skylightlaw06.HistSame', WHERE WHAT IT READS IS OF BULK AT MOST 1048576: true; the input reads as it did. -/
def histSameUptoRow : OpenClaim := { program := "ytbnjjpmlaknaoaa", sum := "5c46b7713cbaba49ce3a17f4176035be0b2e9399062d1cae780bd1323599037a", func := "skylight/skylightlaw06.HistSame", spec := "histSame", unfollowed := true, recurses := true, apart := false, narrowed := true }
def HistSameUptoSaid : Prop := histSameUptoRow.holds Try.pinned (OpenSpec.upto histSameSpec)

end Rows
end Go.Proofs.Ytbnjjpmlaknaoaa
