/-
  No cell of these rows narrows 'for every input' (looked for: loops, veiled, ifaces, maps, wideKeys, modest, calm, conditions, laid).
  DERIVED. THE GIVEN ROWS OF THIS SEAT. 24 by the template 'for every input the law returns true; each argument reads behind the call as it read before'; 0 by the template 'total and deterministic' (their statements: YtnhblhhkjnmkkaaTotals.lean).
  GIVEN WITH THE SEED: the statements are not yours to turn. If you find one false, say at which input.
  Laid BY PROGRAM, IN A SANDBOX (cutbox-rows.mjs): the forced cells as the released guide's own fill.sh prints them over the translation d407cdccfe7a4804… (all of the seat's roots in one cut). By AI agents, Wed Nov 11 2026. No macro, syntax, notation, axiom, sorry.
-/
import Derived.Test.YtnhblhhkjnmkkaaChecked
import GoSem.Claim
import GoSem.ClaimJoined
import GoSem.ClaimMapViews
import Derived.JoinedTies
import Derived.KernelRfl
namespace Go.Proofs.Ytnhblhhkjnmkkaa
/- THE CELL 'sum', in the pinned program and in every row, IS THE sha256 OF THE DUMP (.gsa) THAT YtnhblhhkjnmkkaaProg.lean LOADS. Nothing in Lean hashes anything: it is a label: what it is worth is what the hold of that sum in a sandbox is worth. -/
noncomputable def Try.pinned : Pinned := { name := "ytnhblhhkjnmkkaa", sum := "d407cdccfe7a480419305a1f95f1cf3e3441c590237c795c09fa30185f1fdd11", checked := Try.checked }
namespace Rows
def none {H : Type} : Left H := { results := [], args := [] }

/-- 'turncocklaw2.VarintPuts': WHATEVER THE INPUT: true; the input reads as it did. -/
def varintPutsSpec : ChangeSpec := { name := "varintPuts", fn := fun _ => fun
  | [d1, d2, d3] => { results := [.lit (.bool true)], args := [d1, d2, d3] }
  | _ => none }
def varintPutsRow : OpenClaim := { program := "ytnhblhhkjnmkkaa", sum := "d407cdccfe7a480419305a1f95f1cf3e3441c590237c795c09fa30185f1fdd11", func := "turncock/turncocklaw2.VarintPuts", spec := "varintPuts", apart := false }
def VarintPutsSaid : Prop := varintPutsRow.holds Try.pinned (OpenSpec.ofChange varintPutsSpec)

/-- ITS FALSE NEIGHBOUR: 'it returns false'. Refute it at one input. -/
def varintPutsWrong : ChangeSpec := { name := "varintPuts", fn := fun _ => fun
  | [d1, d2, d3] => { results := [.lit (.bool false)], args := [d1, d2, d3] }
  | _ => none }
def VarintPutsWrongFalsely : Prop := varintPutsRow.holds Try.pinned (OpenSpec.ofChange varintPutsWrong)

/-- 'turncocklaw2.VarintGets': WHATEVER THE INPUT: true; the input reads as it did. -/
def varintGetsSpec : ChangeSpec := { name := "varintGets", fn := fun _ => fun
  | [d] => { results := [.lit (.bool true)], args := [d] }
  | _ => none }
def varintGetsRow : OpenClaim := { program := "ytnhblhhkjnmkkaa", sum := "d407cdccfe7a480419305a1f95f1cf3e3441c590237c795c09fa30185f1fdd11", func := "turncock/turncocklaw2.VarintGets", spec := "varintGets", apart := false }
def VarintGetsSaid : Prop := varintGetsRow.holds Try.pinned (OpenSpec.ofChange varintGetsSpec)

/-- ITS FALSE NEIGHBOUR: 'it returns false'. Refute it at one input. -/
def varintGetsWrong : ChangeSpec := { name := "varintGets", fn := fun _ => fun
  | [d] => { results := [.lit (.bool false)], args := [d] }
  | _ => none }
def VarintGetsWrongFalsely : Prop := varintGetsRow.holds Try.pinned (OpenSpec.ofChange varintGetsWrong)

/-- 'turncocklaw2.VarintOnly': WHATEVER THE INPUT: true; the input reads as it did. -/
def varintOnlySpec : ChangeSpec := { name := "varintOnly", fn := fun _ => fun
  | [d] => { results := [.lit (.bool true)], args := [d] }
  | _ => none }
def varintOnlyRow : OpenClaim := { program := "ytnhblhhkjnmkkaa", sum := "d407cdccfe7a480419305a1f95f1cf3e3441c590237c795c09fa30185f1fdd11", func := "turncock/turncocklaw2.VarintOnly", spec := "varintOnly", apart := false }
def VarintOnlySaid : Prop := varintOnlyRow.holds Try.pinned (OpenSpec.ofChange varintOnlySpec)

/-- ITS FALSE NEIGHBOUR: 'it returns false'. Refute it at one input. -/
def varintOnlyWrong : ChangeSpec := { name := "varintOnly", fn := fun _ => fun
  | [d] => { results := [.lit (.bool false)], args := [d] }
  | _ => none }
def VarintOnlyWrongFalsely : Prop := varintOnlyRow.holds Try.pinned (OpenSpec.ofChange varintOnlyWrong)

/-- 'turncocklaw2.VarintOrder': WHATEVER THE INPUT: true; the input reads as it did. -/
def varintOrderSpec : ChangeSpec := { name := "varintOrder", fn := fun _ => fun
  | [d1, d2] => { results := [.lit (.bool true)], args := [d1, d2] }
  | _ => none }
def varintOrderRow : OpenClaim := { program := "ytnhblhhkjnmkkaa", sum := "d407cdccfe7a480419305a1f95f1cf3e3441c590237c795c09fa30185f1fdd11", func := "turncock/turncocklaw2.VarintOrder", spec := "varintOrder", apart := false }
def VarintOrderSaid : Prop := varintOrderRow.holds Try.pinned (OpenSpec.ofChange varintOrderSpec)

/-- ITS FALSE NEIGHBOUR: 'it returns false'. Refute it at one input. -/
def varintOrderWrong : ChangeSpec := { name := "varintOrder", fn := fun _ => fun
  | [d1, d2] => { results := [.lit (.bool false)], args := [d1, d2] }
  | _ => none }
def VarintOrderWrongFalsely : Prop := varintOrderRow.holds Try.pinned (OpenSpec.ofChange varintOrderWrong)

/-- 'turncocklaw3.FrameBack': WHATEVER THE INPUT: true; the input reads as it did. -/
def frameBackSpec : ChangeSpec := { name := "frameBack", fn := fun _ => fun
  | [d1, d2] => { results := [.lit (.bool true)], args := [d1, d2] }
  | _ => none }
def frameBackRow : OpenClaim := { program := "ytnhblhhkjnmkkaa", sum := "d407cdccfe7a480419305a1f95f1cf3e3441c590237c795c09fa30185f1fdd11", func := "turncock/turncocklaw3.FrameBack", spec := "frameBack", apart := false }
def FrameBackSaid : Prop := frameBackRow.holds Try.pinned (OpenSpec.ofChange frameBackSpec)

/-- ITS FALSE NEIGHBOUR: 'it returns false'. Refute it at one input. -/
def frameBackWrong : ChangeSpec := { name := "frameBack", fn := fun _ => fun
  | [d1, d2] => { results := [.lit (.bool false)], args := [d1, d2] }
  | _ => none }
def FrameBackWrongFalsely : Prop := frameBackRow.holds Try.pinned (OpenSpec.ofChange frameBackWrong)

/-- 'turncocklaw3.FrameNext': WHATEVER THE INPUT: true; the input reads as it did. -/
def frameNextSpec : ChangeSpec := { name := "frameNext", fn := fun _ => fun
  | [d1, d2] => { results := [.lit (.bool true)], args := [d1, d2] }
  | _ => none }
def frameNextRow : OpenClaim := { program := "ytnhblhhkjnmkkaa", sum := "d407cdccfe7a480419305a1f95f1cf3e3441c590237c795c09fa30185f1fdd11", func := "turncock/turncocklaw3.FrameNext", spec := "frameNext", apart := false }
def FrameNextSaid : Prop := frameNextRow.holds Try.pinned (OpenSpec.ofChange frameNextSpec)

/-- ITS FALSE NEIGHBOUR: 'it returns false'. Refute it at one input. -/
def frameNextWrong : ChangeSpec := { name := "frameNext", fn := fun _ => fun
  | [d1, d2] => { results := [.lit (.bool false)], args := [d1, d2] }
  | _ => none }
def FrameNextWrongFalsely : Prop := frameNextRow.holds Try.pinned (OpenSpec.ofChange frameNextWrong)

/-- 'turncocklaw3.FrameAll': WHATEVER THE INPUT: true; the input reads as it did. -/
def frameAllSpec : ChangeSpec := { name := "frameAll", fn := fun _ => fun
  | [d1, d2] => { results := [.lit (.bool true)], args := [d1, d2] }
  | _ => none }
def frameAllRow : OpenClaim := { program := "ytnhblhhkjnmkkaa", sum := "d407cdccfe7a480419305a1f95f1cf3e3441c590237c795c09fa30185f1fdd11", func := "turncock/turncocklaw3.FrameAll", spec := "frameAll", apart := false }
def FrameAllSaid : Prop := frameAllRow.holds Try.pinned (OpenSpec.ofChange frameAllSpec)

/-- ITS FALSE NEIGHBOUR: 'it returns false'. Refute it at one input. -/
def frameAllWrong : ChangeSpec := { name := "frameAll", fn := fun _ => fun
  | [d1, d2] => { results := [.lit (.bool false)], args := [d1, d2] }
  | _ => none }
def FrameAllWrongFalsely : Prop := frameAllRow.holds Try.pinned (OpenSpec.ofChange frameAllWrong)

/-- 'turncocklaw3.FrameCut': WHATEVER THE INPUT: true; the input reads as it did. -/
def frameCutSpec : ChangeSpec := { name := "frameCut", fn := fun _ => fun
  | [d1, d2] => { results := [.lit (.bool true)], args := [d1, d2] }
  | _ => none }
def frameCutRow : OpenClaim := { program := "ytnhblhhkjnmkkaa", sum := "d407cdccfe7a480419305a1f95f1cf3e3441c590237c795c09fa30185f1fdd11", func := "turncock/turncocklaw3.FrameCut", spec := "frameCut", apart := false }
def FrameCutSaid : Prop := frameCutRow.holds Try.pinned (OpenSpec.ofChange frameCutSpec)

/-- ITS FALSE NEIGHBOUR: 'it returns false'. Refute it at one input. -/
def frameCutWrong : ChangeSpec := { name := "frameCut", fn := fun _ => fun
  | [d1, d2] => { results := [.lit (.bool false)], args := [d1, d2] }
  | _ => none }
def FrameCutWrongFalsely : Prop := frameCutRow.holds Try.pinned (OpenSpec.ofChange frameCutWrong)

/-- 'turncocklaw4.ReasmFeeds': WHATEVER THE INPUT: true; the input reads as it did. -/
def reasmFeedsSpec : ChangeSpec := { name := "reasmFeeds", fn := fun _ => fun
  | [d1, d2] => { results := [.lit (.bool true)], args := [d1, d2] }
  | _ => none }
def reasmFeedsRow : OpenClaim := { program := "ytnhblhhkjnmkkaa", sum := "d407cdccfe7a480419305a1f95f1cf3e3441c590237c795c09fa30185f1fdd11", func := "turncock/turncocklaw4.ReasmFeeds", spec := "reasmFeeds", apart := false }
def ReasmFeedsSaid : Prop := reasmFeedsRow.holds Try.pinned (OpenSpec.ofChange reasmFeedsSpec)

/-- ITS FALSE NEIGHBOUR: 'it returns false'. Refute it at one input. -/
def reasmFeedsWrong : ChangeSpec := { name := "reasmFeeds", fn := fun _ => fun
  | [d1, d2] => { results := [.lit (.bool false)], args := [d1, d2] }
  | _ => none }
def ReasmFeedsWrongFalsely : Prop := reasmFeedsRow.holds Try.pinned (OpenSpec.ofChange reasmFeedsWrong)

/-- 'turncocklaw4.ReasmPieces': WHATEVER THE INPUT: true; the input reads as it did. -/
def reasmPiecesSpec : ChangeSpec := { name := "reasmPieces", fn := fun _ => fun
  | [d1, d2, d3, d4] => { results := [.lit (.bool true)], args := [d1, d2, d3, d4] }
  | _ => none }
def reasmPiecesRow : OpenClaim := { program := "ytnhblhhkjnmkkaa", sum := "d407cdccfe7a480419305a1f95f1cf3e3441c590237c795c09fa30185f1fdd11", func := "turncock/turncocklaw4.ReasmPieces", spec := "reasmPieces", apart := false }
def ReasmPiecesSaid : Prop := reasmPiecesRow.holds Try.pinned (OpenSpec.ofChange reasmPiecesSpec)

/-- ITS FALSE NEIGHBOUR: 'it returns false'. Refute it at one input. -/
def reasmPiecesWrong : ChangeSpec := { name := "reasmPieces", fn := fun _ => fun
  | [d1, d2, d3, d4] => { results := [.lit (.bool false)], args := [d1, d2, d3, d4] }
  | _ => none }
def ReasmPiecesWrongFalsely : Prop := reasmPiecesRow.holds Try.pinned (OpenSpec.ofChange reasmPiecesWrong)

/-- 'turncocklaw4.ReasmOff': WHATEVER THE INPUT: true; the input reads as it did. -/
def reasmOffSpec : ChangeSpec := { name := "reasmOff", fn := fun _ => fun
  | [d1, d2, d3] => { results := [.lit (.bool true)], args := [d1, d2, d3] }
  | _ => none }
def reasmOffRow : OpenClaim := { program := "ytnhblhhkjnmkkaa", sum := "d407cdccfe7a480419305a1f95f1cf3e3441c590237c795c09fa30185f1fdd11", func := "turncock/turncocklaw4.ReasmOff", spec := "reasmOff", apart := false }
def ReasmOffSaid : Prop := reasmOffRow.holds Try.pinned (OpenSpec.ofChange reasmOffSpec)

/-- ITS FALSE NEIGHBOUR: 'it returns false'. Refute it at one input. -/
def reasmOffWrong : ChangeSpec := { name := "reasmOff", fn := fun _ => fun
  | [d1, d2, d3] => { results := [.lit (.bool false)], args := [d1, d2, d3] }
  | _ => none }
def ReasmOffWrongFalsely : Prop := reasmOffRow.holds Try.pinned (OpenSpec.ofChange reasmOffWrong)

/-- 'turncocklaw32.ConnsActs': WHATEVER THE INPUT: true; the input reads as it did. -/
def connsActsSpec : ChangeSpec := { name := "connsActs", fn := fun _ => fun
  | [d1, d2, d3] => { results := [.lit (.bool true)], args := [d1, d2, d3] }
  | _ => none }
def connsActsRow : OpenClaim := { program := "ytnhblhhkjnmkkaa", sum := "d407cdccfe7a480419305a1f95f1cf3e3441c590237c795c09fa30185f1fdd11", func := "turncock/turncocklaw32.ConnsActs", spec := "connsActs", apart := false }
def ConnsActsSaid : Prop := connsActsRow.holds Try.pinned (OpenSpec.ofChange connsActsSpec)

/-- ITS FALSE NEIGHBOUR: 'it returns false'. Refute it at one input. -/
def connsActsWrong : ChangeSpec := { name := "connsActs", fn := fun _ => fun
  | [d1, d2, d3] => { results := [.lit (.bool false)], args := [d1, d2, d3] }
  | _ => none }
def ConnsActsWrongFalsely : Prop := connsActsRow.holds Try.pinned (OpenSpec.ofChange connsActsWrong)

/-- 'turncocklaw32.ConnsApart': WHATEVER THE INPUT: true; the input reads as it did. -/
def connsApartSpec : ChangeSpec := { name := "connsApart", fn := fun _ => fun
  | [d1, d2] => { results := [.lit (.bool true)], args := [d1, d2] }
  | _ => none }
def connsApartRow : OpenClaim := { program := "ytnhblhhkjnmkkaa", sum := "d407cdccfe7a480419305a1f95f1cf3e3441c590237c795c09fa30185f1fdd11", func := "turncock/turncocklaw32.ConnsApart", spec := "connsApart", apart := false }
def ConnsApartSaid : Prop := connsApartRow.holds Try.pinned (OpenSpec.ofChange connsApartSpec)

/-- ITS FALSE NEIGHBOUR: 'it returns false'. Refute it at one input. -/
def connsApartWrong : ChangeSpec := { name := "connsApart", fn := fun _ => fun
  | [d1, d2] => { results := [.lit (.bool false)], args := [d1, d2] }
  | _ => none }
def ConnsApartWrongFalsely : Prop := connsApartRow.holds Try.pinned (OpenSpec.ofChange connsApartWrong)

/-- 'turncocklaw32.ConnsAnew': WHATEVER THE INPUT: true; the input reads as it did. -/
def connsAnewSpec : ChangeSpec := { name := "connsAnew", fn := fun _ => fun
  | [d1, d2, d3] => { results := [.lit (.bool true)], args := [d1, d2, d3] }
  | _ => none }
def connsAnewRow : OpenClaim := { program := "ytnhblhhkjnmkkaa", sum := "d407cdccfe7a480419305a1f95f1cf3e3441c590237c795c09fa30185f1fdd11", func := "turncock/turncocklaw32.ConnsAnew", spec := "connsAnew", apart := false }
def ConnsAnewSaid : Prop := connsAnewRow.holds Try.pinned (OpenSpec.ofChange connsAnewSpec)

/-- ITS FALSE NEIGHBOUR: 'it returns false'. Refute it at one input. -/
def connsAnewWrong : ChangeSpec := { name := "connsAnew", fn := fun _ => fun
  | [d1, d2, d3] => { results := [.lit (.bool false)], args := [d1, d2, d3] }
  | _ => none }
def ConnsAnewWrongFalsely : Prop := connsAnewRow.holds Try.pinned (OpenSpec.ofChange connsAnewWrong)

/-- 'turncocklaw9.AdminQueries': WHATEVER THE INPUT: true; the input reads as it did. -/
def adminQueriesSpec : ChangeSpec := { name := "adminQueries", fn := fun _ => fun
  | [d] => { results := [.lit (.bool true)], args := [d] }
  | _ => none }
def adminQueriesRow : OpenClaim := { program := "ytnhblhhkjnmkkaa", sum := "d407cdccfe7a480419305a1f95f1cf3e3441c590237c795c09fa30185f1fdd11", func := "turncock/turncocklaw9.AdminQueries", spec := "adminQueries", unfollowed := true, recurses := true, apart := false }
def AdminQueriesSaid : Prop := adminQueriesRow.holds Try.pinned (OpenSpec.ofChange adminQueriesSpec)

/-- ITS FALSE NEIGHBOUR: 'it returns false'. Refute it at one input. -/
def adminQueriesWrong : ChangeSpec := { name := "adminQueries", fn := fun _ => fun
  | [d] => { results := [.lit (.bool false)], args := [d] }
  | _ => none }
def AdminQueriesWrongFalsely : Prop := adminQueriesRow.holds Try.pinned (OpenSpec.ofChange adminQueriesWrong)

/-- 'turncocklaw9.AdminReports': WHATEVER THE INPUT: true; the input reads as it did. -/
def adminReportsSpec : ChangeSpec := { name := "adminReports", fn := fun _ => fun
  | [d] => { results := [.lit (.bool true)], args := [d] }
  | _ => none }
def adminReportsRow : OpenClaim := { program := "ytnhblhhkjnmkkaa", sum := "d407cdccfe7a480419305a1f95f1cf3e3441c590237c795c09fa30185f1fdd11", func := "turncock/turncocklaw9.AdminReports", spec := "adminReports", unfollowed := true, recurses := true, apart := false }
def AdminReportsSaid : Prop := adminReportsRow.holds Try.pinned (OpenSpec.ofChange adminReportsSpec)

/-- ITS FALSE NEIGHBOUR: 'it returns false'. Refute it at one input. -/
def adminReportsWrong : ChangeSpec := { name := "adminReports", fn := fun _ => fun
  | [d] => { results := [.lit (.bool false)], args := [d] }
  | _ => none }
def AdminReportsWrongFalsely : Prop := adminReportsRow.holds Try.pinned (OpenSpec.ofChange adminReportsWrong)

/-- 'turncocklaw9.AdminOops': WHATEVER THE INPUT: true; the input reads as it did. -/
def adminOopsSpec : ChangeSpec := { name := "adminOops", fn := fun _ => fun
  | [d] => { results := [.lit (.bool true)], args := [d] }
  | _ => none }
def adminOopsRow : OpenClaim := { program := "ytnhblhhkjnmkkaa", sum := "d407cdccfe7a480419305a1f95f1cf3e3441c590237c795c09fa30185f1fdd11", func := "turncock/turncocklaw9.AdminOops", spec := "adminOops", unfollowed := true, recurses := true, apart := false }
def AdminOopsSaid : Prop := adminOopsRow.holds Try.pinned (OpenSpec.ofChange adminOopsSpec)

/-- ITS FALSE NEIGHBOUR: 'it returns false'. Refute it at one input. -/
def adminOopsWrong : ChangeSpec := { name := "adminOops", fn := fun _ => fun
  | [d] => { results := [.lit (.bool false)], args := [d] }
  | _ => none }
def AdminOopsWrongFalsely : Prop := adminOopsRow.holds Try.pinned (OpenSpec.ofChange adminOopsWrong)

/-- 'turncocklaw7.AskMakes': WHATEVER THE INPUT: true; the input reads as it did. -/
def askMakesSpec : ChangeSpec := { name := "askMakes", fn := fun _ => fun
  | [d] => { results := [.lit (.bool true)], args := [d] }
  | _ => none }
def askMakesRow : OpenClaim := { program := "ytnhblhhkjnmkkaa", sum := "d407cdccfe7a480419305a1f95f1cf3e3441c590237c795c09fa30185f1fdd11", func := "turncock/turncocklaw7.AskMakes", spec := "askMakes", unfollowed := true, recurses := true, apart := false }
def AskMakesSaid : Prop := askMakesRow.holds Try.pinned (OpenSpec.ofChange askMakesSpec)

/-- ITS FALSE NEIGHBOUR: 'it returns false'. Refute it at one input. -/
def askMakesWrong : ChangeSpec := { name := "askMakes", fn := fun _ => fun
  | [d] => { results := [.lit (.bool false)], args := [d] }
  | _ => none }
def AskMakesWrongFalsely : Prop := askMakesRow.holds Try.pinned (OpenSpec.ofChange askMakesWrong)

/-- 'turncocklaw7.AskBack': WHATEVER THE INPUT: true; the input reads as it did. -/
def askBackSpec : ChangeSpec := { name := "askBack", fn := fun _ => fun
  | [d] => { results := [.lit (.bool true)], args := [d] }
  | _ => none }
def askBackRow : OpenClaim := { program := "ytnhblhhkjnmkkaa", sum := "d407cdccfe7a480419305a1f95f1cf3e3441c590237c795c09fa30185f1fdd11", func := "turncock/turncocklaw7.AskBack", spec := "askBack", unfollowed := true, recurses := true, apart := false }
def AskBackSaid : Prop := askBackRow.holds Try.pinned (OpenSpec.ofChange askBackSpec)

/-- ITS FALSE NEIGHBOUR: 'it returns false'. Refute it at one input. -/
def askBackWrong : ChangeSpec := { name := "askBack", fn := fun _ => fun
  | [d] => { results := [.lit (.bool false)], args := [d] }
  | _ => none }
def AskBackWrongFalsely : Prop := askBackRow.holds Try.pinned (OpenSpec.ofChange askBackWrong)

/-- 'turncocklaw7.AskCut': WHATEVER THE INPUT: true; the input reads as it did. -/
def askCutSpec : ChangeSpec := { name := "askCut", fn := fun _ => fun
  | [d1, d2, d3] => { results := [.lit (.bool true)], args := [d1, d2, d3] }
  | _ => none }
def askCutRow : OpenClaim := { program := "ytnhblhhkjnmkkaa", sum := "d407cdccfe7a480419305a1f95f1cf3e3441c590237c795c09fa30185f1fdd11", func := "turncock/turncocklaw7.AskCut", spec := "askCut", unfollowed := true, recurses := true, apart := false }
def AskCutSaid : Prop := askCutRow.holds Try.pinned (OpenSpec.ofChange askCutSpec)

/-- ITS FALSE NEIGHBOUR: 'it returns false'. Refute it at one input. -/
def askCutWrong : ChangeSpec := { name := "askCut", fn := fun _ => fun
  | [d1, d2, d3] => { results := [.lit (.bool false)], args := [d1, d2, d3] }
  | _ => none }
def AskCutWrongFalsely : Prop := askCutRow.holds Try.pinned (OpenSpec.ofChange askCutWrong)

/-- 'turncocklaw7.AskSame': WHATEVER THE INPUT: true; the input reads as it did. -/
def askSameSpec : ChangeSpec := { name := "askSame", fn := fun _ => fun
  | [d1, d2] => { results := [.lit (.bool true)], args := [d1, d2] }
  | _ => none }
def askSameRow : OpenClaim := { program := "ytnhblhhkjnmkkaa", sum := "d407cdccfe7a480419305a1f95f1cf3e3441c590237c795c09fa30185f1fdd11", func := "turncock/turncocklaw7.AskSame", spec := "askSame", unfollowed := true, recurses := true, apart := false }
def AskSameSaid : Prop := askSameRow.holds Try.pinned (OpenSpec.ofChange askSameSpec)

/-- ITS FALSE NEIGHBOUR: 'it returns false'. Refute it at one input. -/
def askSameWrong : ChangeSpec := { name := "askSame", fn := fun _ => fun
  | [d1, d2] => { results := [.lit (.bool false)], args := [d1, d2] }
  | _ => none }
def AskSameWrongFalsely : Prop := askSameRow.holds Try.pinned (OpenSpec.ofChange askSameWrong)

/-- 'turncocklaw8.TellMakes': WHATEVER THE INPUT: true; the input reads as it did. -/
def tellMakesSpec : ChangeSpec := { name := "tellMakes", fn := fun _ => fun
  | [d] => { results := [.lit (.bool true)], args := [d] }
  | _ => none }
def tellMakesRow : OpenClaim := { program := "ytnhblhhkjnmkkaa", sum := "d407cdccfe7a480419305a1f95f1cf3e3441c590237c795c09fa30185f1fdd11", func := "turncock/turncocklaw8.TellMakes", spec := "tellMakes", unfollowed := true, recurses := true, apart := false }
def TellMakesSaid : Prop := tellMakesRow.holds Try.pinned (OpenSpec.ofChange tellMakesSpec)

/-- ITS FALSE NEIGHBOUR: 'it returns false'. Refute it at one input. -/
def tellMakesWrong : ChangeSpec := { name := "tellMakes", fn := fun _ => fun
  | [d] => { results := [.lit (.bool false)], args := [d] }
  | _ => none }
def TellMakesWrongFalsely : Prop := tellMakesRow.holds Try.pinned (OpenSpec.ofChange tellMakesWrong)

/-- 'turncocklaw8.TellBack': WHATEVER THE INPUT: true; the input reads as it did. -/
def tellBackSpec : ChangeSpec := { name := "tellBack", fn := fun _ => fun
  | [d] => { results := [.lit (.bool true)], args := [d] }
  | _ => none }
def tellBackRow : OpenClaim := { program := "ytnhblhhkjnmkkaa", sum := "d407cdccfe7a480419305a1f95f1cf3e3441c590237c795c09fa30185f1fdd11", func := "turncock/turncocklaw8.TellBack", spec := "tellBack", unfollowed := true, recurses := true, apart := false }
def TellBackSaid : Prop := tellBackRow.holds Try.pinned (OpenSpec.ofChange tellBackSpec)

/-- ITS FALSE NEIGHBOUR: 'it returns false'. Refute it at one input. -/
def tellBackWrong : ChangeSpec := { name := "tellBack", fn := fun _ => fun
  | [d] => { results := [.lit (.bool false)], args := [d] }
  | _ => none }
def TellBackWrongFalsely : Prop := tellBackRow.holds Try.pinned (OpenSpec.ofChange tellBackWrong)

/-- 'turncocklaw8.TellSame': WHATEVER THE INPUT: true; the input reads as it did. -/
def tellSameSpec : ChangeSpec := { name := "tellSame", fn := fun _ => fun
  | [d1, d2] => { results := [.lit (.bool true)], args := [d1, d2] }
  | _ => none }
def tellSameRow : OpenClaim := { program := "ytnhblhhkjnmkkaa", sum := "d407cdccfe7a480419305a1f95f1cf3e3441c590237c795c09fa30185f1fdd11", func := "turncock/turncocklaw8.TellSame", spec := "tellSame", unfollowed := true, recurses := true, apart := false }
def TellSameSaid : Prop := tellSameRow.holds Try.pinned (OpenSpec.ofChange tellSameSpec)

/-- ITS FALSE NEIGHBOUR: 'it returns false'. Refute it at one input. -/
def tellSameWrong : ChangeSpec := { name := "tellSame", fn := fun _ => fun
  | [d1, d2] => { results := [.lit (.bool false)], args := [d1, d2] }
  | _ => none }
def TellSameWrongFalsely : Prop := tellSameRow.holds Try.pinned (OpenSpec.ofChange tellSameWrong)

/- THE SECOND FORM. 'bulk': how many values and letters a reading holds, each counted each time it is reached (what is shared counts as often as it is met; a slice's spare places count too). A statement '..UptoSaid' is the law's where the arguments, and the package variables that the reading takes, are together of bulk at most 1048576: NARROWER than '..Said'. Prove '..Said' where nothing that the law and all that it calls make is longer than what came in: it says more and counts as full. Else prove '..UptoSaid'. A law counts once. -/
mutual
def uptoBulk {H : Type} : DataW H → Nat
  | .lit (.string bytes) => bytes.length + 1
  | .lit _ => 1
  | .nil => 1
  | .ptr d => uptoBulk d + 1
  | .slice elems spare => uptoBulkAll elems + uptoBulkAll spare + 1
  | .agg parts => uptoBulkAll parts + 1
  | .iface _ d => uptoBulk d + 1
  | .map entries => uptoBulkEntries entries + 1
  | .held _ => 1
def uptoBulkAll {H : Type} : List (DataW H) → Nat
  | [] => 0
  | d :: r => uptoBulk d + uptoBulkAll r
def uptoBulkEntries {H : Type} : List (Lit × DataW H) → Nat
  | [] => 0
  | x :: r => uptoBulkEntry x + uptoBulkEntries r
def uptoBulkEntry {H : Type} : Lit × DataW H → Nat
  | (.string bytes, d) => bytes.length + uptoBulk d + 1
  | (_, d) => uptoBulk d + 1
 end
def uptoSmall : (H : Type) → List (DataW H) → Bool := fun _ ds => decide (uptoBulkAll ds ≤ 1048576)
def OpenSpec.upto (s : _root_.Go.ChangeSpec) : _root_.Go.OpenSpec := { _root_.Go.OpenSpec.ofChange s with cond := some uptoSmall }

/-- 'turncocklaw2.VarintPuts', WHERE WHAT IT READS IS OF BULK AT MOST 1048576: true; the input reads as it did. -/
def varintPutsUptoRow : OpenClaim := { program := "ytnhblhhkjnmkkaa", sum := "d407cdccfe7a480419305a1f95f1cf3e3441c590237c795c09fa30185f1fdd11", func := "turncock/turncocklaw2.VarintPuts", spec := "varintPuts", apart := false, narrowed := true }
def VarintPutsUptoSaid : Prop := varintPutsUptoRow.holds Try.pinned (OpenSpec.upto varintPutsSpec)

/-- 'turncocklaw2.VarintGets', WHERE WHAT IT READS IS OF BULK AT MOST 1048576: true; the input reads as it did. -/
def varintGetsUptoRow : OpenClaim := { program := "ytnhblhhkjnmkkaa", sum := "d407cdccfe7a480419305a1f95f1cf3e3441c590237c795c09fa30185f1fdd11", func := "turncock/turncocklaw2.VarintGets", spec := "varintGets", apart := false, narrowed := true }
def VarintGetsUptoSaid : Prop := varintGetsUptoRow.holds Try.pinned (OpenSpec.upto varintGetsSpec)

/-- 'turncocklaw2.VarintOnly', WHERE WHAT IT READS IS OF BULK AT MOST 1048576: true; the input reads as it did. -/
def varintOnlyUptoRow : OpenClaim := { program := "ytnhblhhkjnmkkaa", sum := "d407cdccfe7a480419305a1f95f1cf3e3441c590237c795c09fa30185f1fdd11", func := "turncock/turncocklaw2.VarintOnly", spec := "varintOnly", apart := false, narrowed := true }
def VarintOnlyUptoSaid : Prop := varintOnlyUptoRow.holds Try.pinned (OpenSpec.upto varintOnlySpec)

/-- 'turncocklaw2.VarintOrder', WHERE WHAT IT READS IS OF BULK AT MOST 1048576: true; the input reads as it did. -/
def varintOrderUptoRow : OpenClaim := { program := "ytnhblhhkjnmkkaa", sum := "d407cdccfe7a480419305a1f95f1cf3e3441c590237c795c09fa30185f1fdd11", func := "turncock/turncocklaw2.VarintOrder", spec := "varintOrder", apart := false, narrowed := true }
def VarintOrderUptoSaid : Prop := varintOrderUptoRow.holds Try.pinned (OpenSpec.upto varintOrderSpec)

/-- 'turncocklaw3.FrameBack', WHERE WHAT IT READS IS OF BULK AT MOST 1048576: true; the input reads as it did. -/
def frameBackUptoRow : OpenClaim := { program := "ytnhblhhkjnmkkaa", sum := "d407cdccfe7a480419305a1f95f1cf3e3441c590237c795c09fa30185f1fdd11", func := "turncock/turncocklaw3.FrameBack", spec := "frameBack", apart := false, narrowed := true }
def FrameBackUptoSaid : Prop := frameBackUptoRow.holds Try.pinned (OpenSpec.upto frameBackSpec)

/-- 'turncocklaw3.FrameNext', WHERE WHAT IT READS IS OF BULK AT MOST 1048576: true; the input reads as it did. -/
def frameNextUptoRow : OpenClaim := { program := "ytnhblhhkjnmkkaa", sum := "d407cdccfe7a480419305a1f95f1cf3e3441c590237c795c09fa30185f1fdd11", func := "turncock/turncocklaw3.FrameNext", spec := "frameNext", apart := false, narrowed := true }
def FrameNextUptoSaid : Prop := frameNextUptoRow.holds Try.pinned (OpenSpec.upto frameNextSpec)

/-- 'turncocklaw3.FrameAll', WHERE WHAT IT READS IS OF BULK AT MOST 1048576: true; the input reads as it did. -/
def frameAllUptoRow : OpenClaim := { program := "ytnhblhhkjnmkkaa", sum := "d407cdccfe7a480419305a1f95f1cf3e3441c590237c795c09fa30185f1fdd11", func := "turncock/turncocklaw3.FrameAll", spec := "frameAll", apart := false, narrowed := true }
def FrameAllUptoSaid : Prop := frameAllUptoRow.holds Try.pinned (OpenSpec.upto frameAllSpec)

/-- 'turncocklaw3.FrameCut', WHERE WHAT IT READS IS OF BULK AT MOST 1048576: true; the input reads as it did. -/
def frameCutUptoRow : OpenClaim := { program := "ytnhblhhkjnmkkaa", sum := "d407cdccfe7a480419305a1f95f1cf3e3441c590237c795c09fa30185f1fdd11", func := "turncock/turncocklaw3.FrameCut", spec := "frameCut", apart := false, narrowed := true }
def FrameCutUptoSaid : Prop := frameCutUptoRow.holds Try.pinned (OpenSpec.upto frameCutSpec)

/-- 'turncocklaw4.ReasmFeeds', WHERE WHAT IT READS IS OF BULK AT MOST 1048576: true; the input reads as it did. -/
def reasmFeedsUptoRow : OpenClaim := { program := "ytnhblhhkjnmkkaa", sum := "d407cdccfe7a480419305a1f95f1cf3e3441c590237c795c09fa30185f1fdd11", func := "turncock/turncocklaw4.ReasmFeeds", spec := "reasmFeeds", apart := false, narrowed := true }
def ReasmFeedsUptoSaid : Prop := reasmFeedsUptoRow.holds Try.pinned (OpenSpec.upto reasmFeedsSpec)

/-- 'turncocklaw4.ReasmPieces', WHERE WHAT IT READS IS OF BULK AT MOST 1048576: true; the input reads as it did. -/
def reasmPiecesUptoRow : OpenClaim := { program := "ytnhblhhkjnmkkaa", sum := "d407cdccfe7a480419305a1f95f1cf3e3441c590237c795c09fa30185f1fdd11", func := "turncock/turncocklaw4.ReasmPieces", spec := "reasmPieces", apart := false, narrowed := true }
def ReasmPiecesUptoSaid : Prop := reasmPiecesUptoRow.holds Try.pinned (OpenSpec.upto reasmPiecesSpec)

/-- 'turncocklaw4.ReasmOff', WHERE WHAT IT READS IS OF BULK AT MOST 1048576: true; the input reads as it did. -/
def reasmOffUptoRow : OpenClaim := { program := "ytnhblhhkjnmkkaa", sum := "d407cdccfe7a480419305a1f95f1cf3e3441c590237c795c09fa30185f1fdd11", func := "turncock/turncocklaw4.ReasmOff", spec := "reasmOff", apart := false, narrowed := true }
def ReasmOffUptoSaid : Prop := reasmOffUptoRow.holds Try.pinned (OpenSpec.upto reasmOffSpec)

/-- 'turncocklaw32.ConnsActs', WHERE WHAT IT READS IS OF BULK AT MOST 1048576: true; the input reads as it did. -/
def connsActsUptoRow : OpenClaim := { program := "ytnhblhhkjnmkkaa", sum := "d407cdccfe7a480419305a1f95f1cf3e3441c590237c795c09fa30185f1fdd11", func := "turncock/turncocklaw32.ConnsActs", spec := "connsActs", apart := false, narrowed := true }
def ConnsActsUptoSaid : Prop := connsActsUptoRow.holds Try.pinned (OpenSpec.upto connsActsSpec)

/-- 'turncocklaw32.ConnsApart', WHERE WHAT IT READS IS OF BULK AT MOST 1048576: true; the input reads as it did. -/
def connsApartUptoRow : OpenClaim := { program := "ytnhblhhkjnmkkaa", sum := "d407cdccfe7a480419305a1f95f1cf3e3441c590237c795c09fa30185f1fdd11", func := "turncock/turncocklaw32.ConnsApart", spec := "connsApart", apart := false, narrowed := true }
def ConnsApartUptoSaid : Prop := connsApartUptoRow.holds Try.pinned (OpenSpec.upto connsApartSpec)

/-- 'turncocklaw32.ConnsAnew', WHERE WHAT IT READS IS OF BULK AT MOST 1048576: true; the input reads as it did. -/
def connsAnewUptoRow : OpenClaim := { program := "ytnhblhhkjnmkkaa", sum := "d407cdccfe7a480419305a1f95f1cf3e3441c590237c795c09fa30185f1fdd11", func := "turncock/turncocklaw32.ConnsAnew", spec := "connsAnew", apart := false, narrowed := true }
def ConnsAnewUptoSaid : Prop := connsAnewUptoRow.holds Try.pinned (OpenSpec.upto connsAnewSpec)

/-- 'turncocklaw9.AdminQueries', WHERE WHAT IT READS IS OF BULK AT MOST 1048576: true; the input reads as it did. -/
def adminQueriesUptoRow : OpenClaim := { program := "ytnhblhhkjnmkkaa", sum := "d407cdccfe7a480419305a1f95f1cf3e3441c590237c795c09fa30185f1fdd11", func := "turncock/turncocklaw9.AdminQueries", spec := "adminQueries", unfollowed := true, recurses := true, apart := false, narrowed := true }
def AdminQueriesUptoSaid : Prop := adminQueriesUptoRow.holds Try.pinned (OpenSpec.upto adminQueriesSpec)

/-- 'turncocklaw9.AdminReports', WHERE WHAT IT READS IS OF BULK AT MOST 1048576: true; the input reads as it did. -/
def adminReportsUptoRow : OpenClaim := { program := "ytnhblhhkjnmkkaa", sum := "d407cdccfe7a480419305a1f95f1cf3e3441c590237c795c09fa30185f1fdd11", func := "turncock/turncocklaw9.AdminReports", spec := "adminReports", unfollowed := true, recurses := true, apart := false, narrowed := true }
def AdminReportsUptoSaid : Prop := adminReportsUptoRow.holds Try.pinned (OpenSpec.upto adminReportsSpec)

/-- 'turncocklaw9.AdminOops', WHERE WHAT IT READS IS OF BULK AT MOST 1048576: true; the input reads as it did. -/
def adminOopsUptoRow : OpenClaim := { program := "ytnhblhhkjnmkkaa", sum := "d407cdccfe7a480419305a1f95f1cf3e3441c590237c795c09fa30185f1fdd11", func := "turncock/turncocklaw9.AdminOops", spec := "adminOops", unfollowed := true, recurses := true, apart := false, narrowed := true }
def AdminOopsUptoSaid : Prop := adminOopsUptoRow.holds Try.pinned (OpenSpec.upto adminOopsSpec)

/-- 'turncocklaw7.AskMakes', WHERE WHAT IT READS IS OF BULK AT MOST 1048576: true; the input reads as it did. -/
def askMakesUptoRow : OpenClaim := { program := "ytnhblhhkjnmkkaa", sum := "d407cdccfe7a480419305a1f95f1cf3e3441c590237c795c09fa30185f1fdd11", func := "turncock/turncocklaw7.AskMakes", spec := "askMakes", unfollowed := true, recurses := true, apart := false, narrowed := true }
def AskMakesUptoSaid : Prop := askMakesUptoRow.holds Try.pinned (OpenSpec.upto askMakesSpec)

/-- 'turncocklaw7.AskBack', WHERE WHAT IT READS IS OF BULK AT MOST 1048576: true; the input reads as it did. -/
def askBackUptoRow : OpenClaim := { program := "ytnhblhhkjnmkkaa", sum := "d407cdccfe7a480419305a1f95f1cf3e3441c590237c795c09fa30185f1fdd11", func := "turncock/turncocklaw7.AskBack", spec := "askBack", unfollowed := true, recurses := true, apart := false, narrowed := true }
def AskBackUptoSaid : Prop := askBackUptoRow.holds Try.pinned (OpenSpec.upto askBackSpec)

/-- 'turncocklaw7.AskCut', WHERE WHAT IT READS IS OF BULK AT MOST 1048576: true; the input reads as it did. -/
def askCutUptoRow : OpenClaim := { program := "ytnhblhhkjnmkkaa", sum := "d407cdccfe7a480419305a1f95f1cf3e3441c590237c795c09fa30185f1fdd11", func := "turncock/turncocklaw7.AskCut", spec := "askCut", unfollowed := true, recurses := true, apart := false, narrowed := true }
def AskCutUptoSaid : Prop := askCutUptoRow.holds Try.pinned (OpenSpec.upto askCutSpec)

/-- 'turncocklaw7.AskSame', WHERE WHAT IT READS IS OF BULK AT MOST 1048576: true; the input reads as it did. -/
def askSameUptoRow : OpenClaim := { program := "ytnhblhhkjnmkkaa", sum := "d407cdccfe7a480419305a1f95f1cf3e3441c590237c795c09fa30185f1fdd11", func := "turncock/turncocklaw7.AskSame", spec := "askSame", unfollowed := true, recurses := true, apart := false, narrowed := true }
def AskSameUptoSaid : Prop := askSameUptoRow.holds Try.pinned (OpenSpec.upto askSameSpec)

/-- 'turncocklaw8.TellMakes', WHERE WHAT IT READS IS OF BULK AT MOST 1048576: true; the input reads as it did. -/
def tellMakesUptoRow : OpenClaim := { program := "ytnhblhhkjnmkkaa", sum := "d407cdccfe7a480419305a1f95f1cf3e3441c590237c795c09fa30185f1fdd11", func := "turncock/turncocklaw8.TellMakes", spec := "tellMakes", unfollowed := true, recurses := true, apart := false, narrowed := true }
def TellMakesUptoSaid : Prop := tellMakesUptoRow.holds Try.pinned (OpenSpec.upto tellMakesSpec)

/-- 'turncocklaw8.TellBack', WHERE WHAT IT READS IS OF BULK AT MOST 1048576: true; the input reads as it did. -/
def tellBackUptoRow : OpenClaim := { program := "ytnhblhhkjnmkkaa", sum := "d407cdccfe7a480419305a1f95f1cf3e3441c590237c795c09fa30185f1fdd11", func := "turncock/turncocklaw8.TellBack", spec := "tellBack", unfollowed := true, recurses := true, apart := false, narrowed := true }
def TellBackUptoSaid : Prop := tellBackUptoRow.holds Try.pinned (OpenSpec.upto tellBackSpec)

/-- 'turncocklaw8.TellSame', WHERE WHAT IT READS IS OF BULK AT MOST 1048576: true; the input reads as it did. -/
def tellSameUptoRow : OpenClaim := { program := "ytnhblhhkjnmkkaa", sum := "d407cdccfe7a480419305a1f95f1cf3e3441c590237c795c09fa30185f1fdd11", func := "turncock/turncocklaw8.TellSame", spec := "tellSame", unfollowed := true, recurses := true, apart := false, narrowed := true }
def TellSameUptoSaid : Prop := tellSameUptoRow.holds Try.pinned (OpenSpec.upto tellSameSpec)

end Rows
end Go.Proofs.Ytnhblhhkjnmkkaa
