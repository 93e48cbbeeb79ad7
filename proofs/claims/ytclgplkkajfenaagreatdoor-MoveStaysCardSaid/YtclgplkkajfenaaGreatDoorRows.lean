/-
  NARROWER THAN 'FOR EVERY INPUT', by the rows' own cells (each row's printed sentence says how): LinesColumns: laid · LinesBack: laid · LinesAlike: laid · LinesSpans: laid · LinesTile: laid · LinesNil: laid · StoreTexts: laid · LinesKeeps: laid · StorePlays: laid · StoreUnseen: laid · StoreClones: laid · StoreEnds: laid · LinesWalks: laid · MoveWalks: laid · MoveStays: laid · MoveGoal: laid · MovePlaces: laid · MoveGoes: laid.
  DERIVED. THE GIVEN ROWS OF THIS SEAT. 18 by the template 'for every input the law returns true; each argument reads behind the call as it read before'; 0 by the template 'total and deterministic' (their statements: YtclgplkkajfenaaGreatDoorTotals.lean).
  GIVEN WITH THE SEED: the statements are not yours to turn. If you find one false, say at which input.
  Laid BY PROGRAM, IN A SANDBOX (cutbox-rows.mjs): the forced cells as the released guide's own fill.sh prints them over the translation 2fe0882ab8bda2c7… (all of the seat's roots in one cut). By AI agents, Wed Nov 11 2026. No macro, syntax, notation, axiom, sorry.
-/
import Derived.Test.YtclgplkkajfenaaGreatDoorChecked
import GoSem.PinnedTables
import GoSem.Claim
import GoSem.ClaimJoined
import GoSem.ClaimMapViews
import Derived.JoinedTies
import Derived.KernelRfl
namespace Go.Proofs.YtclgplkkajfenaaGreatDoor
/- THE CELL 'sum', in the pinned program and in every row, IS THE sha256 OF THE DUMP (.gsa) THAT YtclgplkkajfenaaGreatDoorProg.lean LOADS. Nothing in Lean hashes anything: it is a label: what it is worth is what the hold of that sum in a sandbox is worth. -/
noncomputable def Tryz.pinned : Pinned := { name := "ytclgplkkajfenaagreatdoor", sum := "2fe0882ab8bda2c75f29ca876f571e51e95e6d202d582686d13836859891ade4", checked := Tryz.checked }
namespace Rows
def none {H : Type} : Left H := { results := [], args := [] }

/- WHAT THE LISTED PACKAGE-LEVEL VARIABLES READ AS WHEN THE CALL BEGINS. Each datum BY PROGRAM (the guide's laid-datum.mjs) off the statement by which the dump's own 'gosem.cut.vars' lays the variable. In a bare row this is a premise. The card (YtclgplkkajfenaaGreatDoorCards.lean) ties it to the program's text. -/
def laid_unicode_utf8_acceptRanges {H : Type} : DataW H := .agg [.agg [.lit (.int .u8 128), .lit (.int .u8 191)], .agg [.lit (.int .u8 160), .lit (.int .u8 191)], .agg [.lit (.int .u8 128), .lit (.int .u8 159)], .agg [.lit (.int .u8 144), .lit (.int .u8 191)], .agg [.lit (.int .u8 128), .lit (.int .u8 143)], .agg [.lit (.int .u8 0), .lit (.int .u8 0)], .agg [.lit (.int .u8 0), .lit (.int .u8 0)], .agg [.lit (.int .u8 0), .lit (.int .u8 0)], .agg [.lit (.int .u8 0), .lit (.int .u8 0)], .agg [.lit (.int .u8 0), .lit (.int .u8 0)], .agg [.lit (.int .u8 0), .lit (.int .u8 0)], .agg [.lit (.int .u8 0), .lit (.int .u8 0)], .agg [.lit (.int .u8 0), .lit (.int .u8 0)], .agg [.lit (.int .u8 0), .lit (.int .u8 0)], .agg [.lit (.int .u8 0), .lit (.int .u8 0)], .agg [.lit (.int .u8 0), .lit (.int .u8 0)]]
/-- One of Go's own tables, pinned by name: the form's constant. -/
def laid_unicode_utf8_first : DataW Unit := Go.Pinned.utf8First

/-- 'bodkinlaw11.LinesColumns': WHATEVER THE INPUT: true; the input reads as it did. -/
def linesColumnsSpec : ChangeSpec := { name := "linesColumns", fn := fun _ => fun
  | [d1, d2, d3] => { results := [.lit (.bool true)], args := [d1, d2, d3] }
  | _ => none }
def linesColumnsRow : OpenClaim := { program := "ytclgplkkajfenaagreatdoor", sum := "2fe0882ab8bda2c75f29ca876f571e51e95e6d202d582686d13836859891ade4", func := "bodkin/bodkinlaw11.LinesColumns", spec := "linesColumns", inPlace := ["internal/bytealg.CountString", "internal/bytealg.IndexByteString", "internal/bytealg.IndexString"], unfollowed := true, recurses := true, named := ["unicode/utf8.first", "unicode/utf8.acceptRanges", "internal/bytealg.MaxLen"], apart := false, laid := [("unicode/utf8.acceptRanges", laid_unicode_utf8_acceptRanges), ("unicode/utf8.first", laid_unicode_utf8_first)] }
def LinesColumnsSaid : Prop := linesColumnsRow.holds Tryz.pinned (OpenSpec.ofChange linesColumnsSpec)

/-- ITS FALSE NEIGHBOUR: 'it returns false'. Refute it at one input. -/
def linesColumnsWrong : ChangeSpec := { name := "linesColumns", fn := fun _ => fun
  | [d1, d2, d3] => { results := [.lit (.bool false)], args := [d1, d2, d3] }
  | _ => none }
def LinesColumnsWrongFalsely : Prop := linesColumnsRow.holds Tryz.pinned (OpenSpec.ofChange linesColumnsWrong)

/-- 'bodkinlaw11.LinesBack': WHATEVER THE INPUT: true; the input reads as it did. -/
def linesBackSpec : ChangeSpec := { name := "linesBack", fn := fun _ => fun
  | [d] => { results := [.lit (.bool true)], args := [d] }
  | _ => none }
def linesBackRow : OpenClaim := { program := "ytclgplkkajfenaagreatdoor", sum := "2fe0882ab8bda2c75f29ca876f571e51e95e6d202d582686d13836859891ade4", func := "bodkin/bodkinlaw11.LinesBack", spec := "linesBack", inPlace := ["internal/bytealg.CountString", "internal/bytealg.IndexByteString", "internal/bytealg.IndexString"], unfollowed := true, recurses := true, named := ["unicode/utf8.first", "unicode/utf8.acceptRanges", "internal/bytealg.MaxLen"], apart := false, laid := [("unicode/utf8.acceptRanges", laid_unicode_utf8_acceptRanges), ("unicode/utf8.first", laid_unicode_utf8_first)] }
def LinesBackSaid : Prop := linesBackRow.holds Tryz.pinned (OpenSpec.ofChange linesBackSpec)

/-- ITS FALSE NEIGHBOUR: 'it returns false'. Refute it at one input. -/
def linesBackWrong : ChangeSpec := { name := "linesBack", fn := fun _ => fun
  | [d] => { results := [.lit (.bool false)], args := [d] }
  | _ => none }
def LinesBackWrongFalsely : Prop := linesBackRow.holds Tryz.pinned (OpenSpec.ofChange linesBackWrong)

/-- 'bodkinlaw11.LinesAlike': WHATEVER THE INPUT: true; the input reads as it did. -/
def linesAlikeSpec : ChangeSpec := { name := "linesAlike", fn := fun _ => fun
  | [d1, d2, d3] => { results := [.lit (.bool true)], args := [d1, d2, d3] }
  | _ => none }
def linesAlikeRow : OpenClaim := { program := "ytclgplkkajfenaagreatdoor", sum := "2fe0882ab8bda2c75f29ca876f571e51e95e6d202d582686d13836859891ade4", func := "bodkin/bodkinlaw11.LinesAlike", spec := "linesAlike", inPlace := ["internal/bytealg.CountString", "internal/bytealg.IndexByteString", "internal/bytealg.IndexString"], unfollowed := true, recurses := true, named := ["unicode/utf8.first", "unicode/utf8.acceptRanges", "internal/bytealg.MaxLen"], apart := false, laid := [("unicode/utf8.acceptRanges", laid_unicode_utf8_acceptRanges), ("unicode/utf8.first", laid_unicode_utf8_first)] }
def LinesAlikeSaid : Prop := linesAlikeRow.holds Tryz.pinned (OpenSpec.ofChange linesAlikeSpec)

/-- ITS FALSE NEIGHBOUR: 'it returns false'. Refute it at one input. -/
def linesAlikeWrong : ChangeSpec := { name := "linesAlike", fn := fun _ => fun
  | [d1, d2, d3] => { results := [.lit (.bool false)], args := [d1, d2, d3] }
  | _ => none }
def LinesAlikeWrongFalsely : Prop := linesAlikeRow.holds Tryz.pinned (OpenSpec.ofChange linesAlikeWrong)

/-- 'bodkinlaw11.LinesSpans': WHATEVER THE INPUT: true; the input reads as it did. -/
def linesSpansSpec : ChangeSpec := { name := "linesSpans", fn := fun _ => fun
  | [d1, d2] => { results := [.lit (.bool true)], args := [d1, d2] }
  | _ => none }
def linesSpansRow : OpenClaim := { program := "ytclgplkkajfenaagreatdoor", sum := "2fe0882ab8bda2c75f29ca876f571e51e95e6d202d582686d13836859891ade4", func := "bodkin/bodkinlaw11.LinesSpans", spec := "linesSpans", inPlace := ["internal/bytealg.CountString", "internal/bytealg.IndexByteString", "internal/bytealg.IndexString"], unfollowed := true, recurses := true, named := ["unicode/utf8.first", "unicode/utf8.acceptRanges", "internal/bytealg.MaxLen"], apart := false, laid := [("unicode/utf8.acceptRanges", laid_unicode_utf8_acceptRanges), ("unicode/utf8.first", laid_unicode_utf8_first)] }
def LinesSpansSaid : Prop := linesSpansRow.holds Tryz.pinned (OpenSpec.ofChange linesSpansSpec)

/-- ITS FALSE NEIGHBOUR: 'it returns false'. Refute it at one input. -/
def linesSpansWrong : ChangeSpec := { name := "linesSpans", fn := fun _ => fun
  | [d1, d2] => { results := [.lit (.bool false)], args := [d1, d2] }
  | _ => none }
def LinesSpansWrongFalsely : Prop := linesSpansRow.holds Tryz.pinned (OpenSpec.ofChange linesSpansWrong)

/-- 'bodkinlaw11.LinesTile': WHATEVER THE INPUT: true; the input reads as it did. -/
def linesTileSpec : ChangeSpec := { name := "linesTile", fn := fun _ => fun
  | [d] => { results := [.lit (.bool true)], args := [d] }
  | _ => none }
def linesTileRow : OpenClaim := { program := "ytclgplkkajfenaagreatdoor", sum := "2fe0882ab8bda2c75f29ca876f571e51e95e6d202d582686d13836859891ade4", func := "bodkin/bodkinlaw11.LinesTile", spec := "linesTile", inPlace := ["internal/bytealg.CountString", "internal/bytealg.IndexByteString", "internal/bytealg.IndexString"], unfollowed := true, recurses := true, named := ["unicode/utf8.first", "unicode/utf8.acceptRanges", "internal/bytealg.MaxLen"], apart := false, laid := [("unicode/utf8.acceptRanges", laid_unicode_utf8_acceptRanges), ("unicode/utf8.first", laid_unicode_utf8_first)] }
def LinesTileSaid : Prop := linesTileRow.holds Tryz.pinned (OpenSpec.ofChange linesTileSpec)

/-- ITS FALSE NEIGHBOUR: 'it returns false'. Refute it at one input. -/
def linesTileWrong : ChangeSpec := { name := "linesTile", fn := fun _ => fun
  | [d] => { results := [.lit (.bool false)], args := [d] }
  | _ => none }
def LinesTileWrongFalsely : Prop := linesTileRow.holds Tryz.pinned (OpenSpec.ofChange linesTileWrong)

/-- 'bodkinlaw11.LinesNil': WHATEVER THE INPUT: true; the input reads as it did. -/
def linesNilSpec : ChangeSpec := { name := "linesNil", fn := fun _ => fun
  | [d1, d2] => { results := [.lit (.bool true)], args := [d1, d2] }
  | _ => none }
def linesNilRow : OpenClaim := { program := "ytclgplkkajfenaagreatdoor", sum := "2fe0882ab8bda2c75f29ca876f571e51e95e6d202d582686d13836859891ade4", func := "bodkin/bodkinlaw11.LinesNil", spec := "linesNil", inPlace := ["internal/bytealg.CountString", "internal/bytealg.IndexByteString", "internal/bytealg.IndexString"], unfollowed := true, recurses := true, named := ["unicode/utf8.first", "unicode/utf8.acceptRanges", "internal/bytealg.MaxLen"], apart := false, laid := [("unicode/utf8.acceptRanges", laid_unicode_utf8_acceptRanges), ("unicode/utf8.first", laid_unicode_utf8_first)] }
def LinesNilSaid : Prop := linesNilRow.holds Tryz.pinned (OpenSpec.ofChange linesNilSpec)

/-- ITS FALSE NEIGHBOUR: 'it returns false'. Refute it at one input. -/
def linesNilWrong : ChangeSpec := { name := "linesNil", fn := fun _ => fun
  | [d1, d2] => { results := [.lit (.bool false)], args := [d1, d2] }
  | _ => none }
def LinesNilWrongFalsely : Prop := linesNilRow.holds Tryz.pinned (OpenSpec.ofChange linesNilWrong)

/-- 'bodkinlaw09.StoreTexts': WHATEVER THE INPUT: true; the input reads as it did. -/
def storeTextsSpec : ChangeSpec := { name := "storeTexts", fn := fun _ => fun
  | [d1, d2, d3] => { results := [.lit (.bool true)], args := [d1, d2, d3] }
  | _ => none }
def storeTextsRow : OpenClaim := { program := "ytclgplkkajfenaagreatdoor", sum := "2fe0882ab8bda2c75f29ca876f571e51e95e6d202d582686d13836859891ade4", func := "bodkin/bodkinlaw09.StoreTexts", spec := "storeTexts", inPlace := ["internal/bytealg.CountString", "internal/bytealg.IndexByteString", "internal/bytealg.IndexString"], unfollowed := true, recurses := true, named := ["unicode/utf8.first", "unicode/utf8.acceptRanges", "internal/bytealg.MaxLen"], apart := false, laid := [("unicode/utf8.acceptRanges", laid_unicode_utf8_acceptRanges), ("unicode/utf8.first", laid_unicode_utf8_first)] }
def StoreTextsSaid : Prop := storeTextsRow.holds Tryz.pinned (OpenSpec.ofChange storeTextsSpec)

/-- ITS FALSE NEIGHBOUR: 'it returns false'. Refute it at one input. -/
def storeTextsWrong : ChangeSpec := { name := "storeTexts", fn := fun _ => fun
  | [d1, d2, d3] => { results := [.lit (.bool false)], args := [d1, d2, d3] }
  | _ => none }
def StoreTextsWrongFalsely : Prop := storeTextsRow.holds Tryz.pinned (OpenSpec.ofChange storeTextsWrong)

/-- 'bodkinlaw11.LinesKeeps': WHATEVER THE INPUT: true; the input reads as it did. -/
def linesKeepsSpec : ChangeSpec := { name := "linesKeeps", fn := fun _ => fun
  | [d1, d2, d3] => { results := [.lit (.bool true)], args := [d1, d2, d3] }
  | _ => none }
def linesKeepsRow : OpenClaim := { program := "ytclgplkkajfenaagreatdoor", sum := "2fe0882ab8bda2c75f29ca876f571e51e95e6d202d582686d13836859891ade4", func := "bodkin/bodkinlaw11.LinesKeeps", spec := "linesKeeps", inPlace := ["internal/bytealg.CountString", "internal/bytealg.IndexByteString", "internal/bytealg.IndexString"], unfollowed := true, recurses := true, named := ["unicode/utf8.first", "unicode/utf8.acceptRanges", "internal/bytealg.MaxLen"], apart := false, laid := [("unicode/utf8.acceptRanges", laid_unicode_utf8_acceptRanges), ("unicode/utf8.first", laid_unicode_utf8_first)] }
def LinesKeepsSaid : Prop := linesKeepsRow.holds Tryz.pinned (OpenSpec.ofChange linesKeepsSpec)

/-- ITS FALSE NEIGHBOUR: 'it returns false'. Refute it at one input. -/
def linesKeepsWrong : ChangeSpec := { name := "linesKeeps", fn := fun _ => fun
  | [d1, d2, d3] => { results := [.lit (.bool false)], args := [d1, d2, d3] }
  | _ => none }
def LinesKeepsWrongFalsely : Prop := linesKeepsRow.holds Tryz.pinned (OpenSpec.ofChange linesKeepsWrong)

/-- 'bodkinlaw09.StorePlays': WHATEVER THE INPUT: true; the input reads as it did. -/
def storePlaysSpec : ChangeSpec := { name := "storePlays", fn := fun _ => fun
  | [d1, d2] => { results := [.lit (.bool true)], args := [d1, d2] }
  | _ => none }
def storePlaysRow : OpenClaim := { program := "ytclgplkkajfenaagreatdoor", sum := "2fe0882ab8bda2c75f29ca876f571e51e95e6d202d582686d13836859891ade4", func := "bodkin/bodkinlaw09.StorePlays", spec := "storePlays", inPlace := ["internal/bytealg.CountString", "internal/bytealg.IndexByteString", "internal/bytealg.IndexString"], unfollowed := true, recurses := true, named := ["unicode/utf8.first", "unicode/utf8.acceptRanges", "internal/bytealg.MaxLen"], apart := false, laid := [("unicode/utf8.acceptRanges", laid_unicode_utf8_acceptRanges), ("unicode/utf8.first", laid_unicode_utf8_first)] }
def StorePlaysSaid : Prop := storePlaysRow.holds Tryz.pinned (OpenSpec.ofChange storePlaysSpec)

/-- ITS FALSE NEIGHBOUR: 'it returns false'. Refute it at one input. -/
def storePlaysWrong : ChangeSpec := { name := "storePlays", fn := fun _ => fun
  | [d1, d2] => { results := [.lit (.bool false)], args := [d1, d2] }
  | _ => none }
def StorePlaysWrongFalsely : Prop := storePlaysRow.holds Tryz.pinned (OpenSpec.ofChange storePlaysWrong)

/-- 'bodkinlaw09.StoreUnseen': WHATEVER THE INPUT: true; the input reads as it did. -/
def storeUnseenSpec : ChangeSpec := { name := "storeUnseen", fn := fun _ => fun
  | [d1, d2, d3] => { results := [.lit (.bool true)], args := [d1, d2, d3] }
  | _ => none }
def storeUnseenRow : OpenClaim := { program := "ytclgplkkajfenaagreatdoor", sum := "2fe0882ab8bda2c75f29ca876f571e51e95e6d202d582686d13836859891ade4", func := "bodkin/bodkinlaw09.StoreUnseen", spec := "storeUnseen", inPlace := ["internal/bytealg.CountString", "internal/bytealg.IndexByteString", "internal/bytealg.IndexString"], unfollowed := true, recurses := true, named := ["unicode/utf8.first", "unicode/utf8.acceptRanges", "internal/bytealg.MaxLen"], apart := false, laid := [("unicode/utf8.acceptRanges", laid_unicode_utf8_acceptRanges), ("unicode/utf8.first", laid_unicode_utf8_first)] }
def StoreUnseenSaid : Prop := storeUnseenRow.holds Tryz.pinned (OpenSpec.ofChange storeUnseenSpec)

/-- ITS FALSE NEIGHBOUR: 'it returns false'. Refute it at one input. -/
def storeUnseenWrong : ChangeSpec := { name := "storeUnseen", fn := fun _ => fun
  | [d1, d2, d3] => { results := [.lit (.bool false)], args := [d1, d2, d3] }
  | _ => none }
def StoreUnseenWrongFalsely : Prop := storeUnseenRow.holds Tryz.pinned (OpenSpec.ofChange storeUnseenWrong)

/-- 'bodkinlaw09.StoreClones': WHATEVER THE INPUT: true; the input reads as it did. -/
def storeClonesSpec : ChangeSpec := { name := "storeClones", fn := fun _ => fun
  | [d1, d2, d3] => { results := [.lit (.bool true)], args := [d1, d2, d3] }
  | _ => none }
def storeClonesRow : OpenClaim := { program := "ytclgplkkajfenaagreatdoor", sum := "2fe0882ab8bda2c75f29ca876f571e51e95e6d202d582686d13836859891ade4", func := "bodkin/bodkinlaw09.StoreClones", spec := "storeClones", inPlace := ["internal/bytealg.CountString", "internal/bytealg.IndexByteString", "internal/bytealg.IndexString"], unfollowed := true, recurses := true, named := ["unicode/utf8.first", "unicode/utf8.acceptRanges", "internal/bytealg.MaxLen"], apart := false, laid := [("unicode/utf8.acceptRanges", laid_unicode_utf8_acceptRanges), ("unicode/utf8.first", laid_unicode_utf8_first)] }
def StoreClonesSaid : Prop := storeClonesRow.holds Tryz.pinned (OpenSpec.ofChange storeClonesSpec)

/-- ITS FALSE NEIGHBOUR: 'it returns false'. Refute it at one input. -/
def storeClonesWrong : ChangeSpec := { name := "storeClones", fn := fun _ => fun
  | [d1, d2, d3] => { results := [.lit (.bool false)], args := [d1, d2, d3] }
  | _ => none }
def StoreClonesWrongFalsely : Prop := storeClonesRow.holds Tryz.pinned (OpenSpec.ofChange storeClonesWrong)

/-- 'bodkinlaw09.StoreEnds': WHATEVER THE INPUT: true; the input reads as it did. -/
def storeEndsSpec : ChangeSpec := { name := "storeEnds", fn := fun _ => fun
  | [d] => { results := [.lit (.bool true)], args := [d] }
  | _ => none }
def storeEndsRow : OpenClaim := { program := "ytclgplkkajfenaagreatdoor", sum := "2fe0882ab8bda2c75f29ca876f571e51e95e6d202d582686d13836859891ade4", func := "bodkin/bodkinlaw09.StoreEnds", spec := "storeEnds", inPlace := ["internal/bytealg.CountString", "internal/bytealg.IndexByteString", "internal/bytealg.IndexString"], unfollowed := true, recurses := true, named := ["unicode/utf8.first", "unicode/utf8.acceptRanges", "internal/bytealg.MaxLen"], apart := false, laid := [("unicode/utf8.acceptRanges", laid_unicode_utf8_acceptRanges), ("unicode/utf8.first", laid_unicode_utf8_first)] }
def StoreEndsSaid : Prop := storeEndsRow.holds Tryz.pinned (OpenSpec.ofChange storeEndsSpec)

/-- ITS FALSE NEIGHBOUR: 'it returns false'. Refute it at one input. -/
def storeEndsWrong : ChangeSpec := { name := "storeEnds", fn := fun _ => fun
  | [d] => { results := [.lit (.bool false)], args := [d] }
  | _ => none }
def StoreEndsWrongFalsely : Prop := storeEndsRow.holds Tryz.pinned (OpenSpec.ofChange storeEndsWrong)

/-- 'bodkinlaw11.LinesWalks': WHATEVER THE INPUT: true; the input reads as it did. -/
def linesWalksSpec : ChangeSpec := { name := "linesWalks", fn := fun _ => fun
  | [d1, d2] => { results := [.lit (.bool true)], args := [d1, d2] }
  | _ => none }
def linesWalksRow : OpenClaim := { program := "ytclgplkkajfenaagreatdoor", sum := "2fe0882ab8bda2c75f29ca876f571e51e95e6d202d582686d13836859891ade4", func := "bodkin/bodkinlaw11.LinesWalks", spec := "linesWalks", inPlace := ["internal/bytealg.CountString", "internal/bytealg.IndexByteString", "internal/bytealg.IndexString"], unfollowed := true, recurses := true, named := ["unicode/utf8.first", "unicode/utf8.acceptRanges", "internal/bytealg.MaxLen"], apart := false, laid := [("unicode/utf8.acceptRanges", laid_unicode_utf8_acceptRanges), ("unicode/utf8.first", laid_unicode_utf8_first)] }
def LinesWalksSaid : Prop := linesWalksRow.holds Tryz.pinned (OpenSpec.ofChange linesWalksSpec)

/-- ITS FALSE NEIGHBOUR: 'it returns false'. Refute it at one input. -/
def linesWalksWrong : ChangeSpec := { name := "linesWalks", fn := fun _ => fun
  | [d1, d2] => { results := [.lit (.bool false)], args := [d1, d2] }
  | _ => none }
def LinesWalksWrongFalsely : Prop := linesWalksRow.holds Tryz.pinned (OpenSpec.ofChange linesWalksWrong)

/-- 'bodkinlaw16.MoveWalks': WHATEVER THE INPUT: true; the input reads as it did. -/
def moveWalksSpec : ChangeSpec := { name := "moveWalks", fn := fun _ => fun
  | [d1, d2, d3, d4] => { results := [.lit (.bool true)], args := [d1, d2, d3, d4] }
  | _ => none }
def moveWalksRow : OpenClaim := { program := "ytclgplkkajfenaagreatdoor", sum := "2fe0882ab8bda2c75f29ca876f571e51e95e6d202d582686d13836859891ade4", func := "bodkin/bodkinlaw16.MoveWalks", spec := "moveWalks", inPlace := ["internal/bytealg.CountString", "internal/bytealg.IndexByteString", "internal/bytealg.IndexString"], unfollowed := true, recurses := true, named := ["unicode/utf8.first", "unicode/utf8.acceptRanges", "internal/bytealg.MaxLen"], apart := false, laid := [("unicode/utf8.acceptRanges", laid_unicode_utf8_acceptRanges), ("unicode/utf8.first", laid_unicode_utf8_first)] }
def MoveWalksSaid : Prop := moveWalksRow.holds Tryz.pinned (OpenSpec.ofChange moveWalksSpec)

/-- ITS FALSE NEIGHBOUR: 'it returns false'. Refute it at one input. -/
def moveWalksWrong : ChangeSpec := { name := "moveWalks", fn := fun _ => fun
  | [d1, d2, d3, d4] => { results := [.lit (.bool false)], args := [d1, d2, d3, d4] }
  | _ => none }
def MoveWalksWrongFalsely : Prop := moveWalksRow.holds Tryz.pinned (OpenSpec.ofChange moveWalksWrong)

/-- 'bodkinlaw16.MoveStays': WHATEVER THE INPUT: true; the input reads as it did. -/
def moveStaysSpec : ChangeSpec := { name := "moveStays", fn := fun _ => fun
  | [d1, d2, d3, d4] => { results := [.lit (.bool true)], args := [d1, d2, d3, d4] }
  | _ => none }
def moveStaysRow : OpenClaim := { program := "ytclgplkkajfenaagreatdoor", sum := "2fe0882ab8bda2c75f29ca876f571e51e95e6d202d582686d13836859891ade4", func := "bodkin/bodkinlaw16.MoveStays", spec := "moveStays", inPlace := ["internal/bytealg.CountString", "internal/bytealg.IndexByteString", "internal/bytealg.IndexString"], unfollowed := true, recurses := true, named := ["unicode/utf8.first", "unicode/utf8.acceptRanges", "internal/bytealg.MaxLen"], apart := false, laid := [("unicode/utf8.acceptRanges", laid_unicode_utf8_acceptRanges), ("unicode/utf8.first", laid_unicode_utf8_first)] }
def MoveStaysSaid : Prop := moveStaysRow.holds Tryz.pinned (OpenSpec.ofChange moveStaysSpec)

/-- ITS FALSE NEIGHBOUR: 'it returns false'. Refute it at one input. -/
def moveStaysWrong : ChangeSpec := { name := "moveStays", fn := fun _ => fun
  | [d1, d2, d3, d4] => { results := [.lit (.bool false)], args := [d1, d2, d3, d4] }
  | _ => none }
def MoveStaysWrongFalsely : Prop := moveStaysRow.holds Tryz.pinned (OpenSpec.ofChange moveStaysWrong)

/-- 'bodkinlaw16.MoveGoal': WHATEVER THE INPUT: true; the input reads as it did. -/
def moveGoalSpec : ChangeSpec := { name := "moveGoal", fn := fun _ => fun
  | [d1, d2, d3, d4] => { results := [.lit (.bool true)], args := [d1, d2, d3, d4] }
  | _ => none }
def moveGoalRow : OpenClaim := { program := "ytclgplkkajfenaagreatdoor", sum := "2fe0882ab8bda2c75f29ca876f571e51e95e6d202d582686d13836859891ade4", func := "bodkin/bodkinlaw16.MoveGoal", spec := "moveGoal", inPlace := ["internal/bytealg.CountString", "internal/bytealg.IndexByteString", "internal/bytealg.IndexString"], unfollowed := true, recurses := true, named := ["unicode/utf8.first", "unicode/utf8.acceptRanges", "internal/bytealg.MaxLen"], apart := false, laid := [("unicode/utf8.acceptRanges", laid_unicode_utf8_acceptRanges), ("unicode/utf8.first", laid_unicode_utf8_first)] }
def MoveGoalSaid : Prop := moveGoalRow.holds Tryz.pinned (OpenSpec.ofChange moveGoalSpec)

/-- ITS FALSE NEIGHBOUR: 'it returns false'. Refute it at one input. -/
def moveGoalWrong : ChangeSpec := { name := "moveGoal", fn := fun _ => fun
  | [d1, d2, d3, d4] => { results := [.lit (.bool false)], args := [d1, d2, d3, d4] }
  | _ => none }
def MoveGoalWrongFalsely : Prop := moveGoalRow.holds Tryz.pinned (OpenSpec.ofChange moveGoalWrong)

/-- 'bodkinlaw16.MovePlaces': WHATEVER THE INPUT: true; the input reads as it did. -/
def movePlacesSpec : ChangeSpec := { name := "movePlaces", fn := fun _ => fun
  | [d1, d2, d3, d4, d5] => { results := [.lit (.bool true)], args := [d1, d2, d3, d4, d5] }
  | _ => none }
def movePlacesRow : OpenClaim := { program := "ytclgplkkajfenaagreatdoor", sum := "2fe0882ab8bda2c75f29ca876f571e51e95e6d202d582686d13836859891ade4", func := "bodkin/bodkinlaw16.MovePlaces", spec := "movePlaces", inPlace := ["internal/bytealg.CountString", "internal/bytealg.IndexByteString", "internal/bytealg.IndexString"], unfollowed := true, recurses := true, named := ["unicode/utf8.first", "unicode/utf8.acceptRanges", "internal/bytealg.MaxLen"], apart := false, laid := [("unicode/utf8.acceptRanges", laid_unicode_utf8_acceptRanges), ("unicode/utf8.first", laid_unicode_utf8_first)] }
def MovePlacesSaid : Prop := movePlacesRow.holds Tryz.pinned (OpenSpec.ofChange movePlacesSpec)

/-- ITS FALSE NEIGHBOUR: 'it returns false'. Refute it at one input. -/
def movePlacesWrong : ChangeSpec := { name := "movePlaces", fn := fun _ => fun
  | [d1, d2, d3, d4, d5] => { results := [.lit (.bool false)], args := [d1, d2, d3, d4, d5] }
  | _ => none }
def MovePlacesWrongFalsely : Prop := movePlacesRow.holds Tryz.pinned (OpenSpec.ofChange movePlacesWrong)

/-- 'bodkinlaw16.MoveGoes': WHATEVER THE INPUT: true; the input reads as it did. -/
def moveGoesSpec : ChangeSpec := { name := "moveGoes", fn := fun _ => fun
  | [d1, d2, d3, d4, d5] => { results := [.lit (.bool true)], args := [d1, d2, d3, d4, d5] }
  | _ => none }
def moveGoesRow : OpenClaim := { program := "ytclgplkkajfenaagreatdoor", sum := "2fe0882ab8bda2c75f29ca876f571e51e95e6d202d582686d13836859891ade4", func := "bodkin/bodkinlaw16.MoveGoes", spec := "moveGoes", inPlace := ["internal/bytealg.CountString", "internal/bytealg.IndexByteString", "internal/bytealg.IndexString"], unfollowed := true, recurses := true, named := ["unicode/utf8.first", "unicode/utf8.acceptRanges", "internal/bytealg.MaxLen"], apart := false, laid := [("unicode/utf8.acceptRanges", laid_unicode_utf8_acceptRanges), ("unicode/utf8.first", laid_unicode_utf8_first)] }
def MoveGoesSaid : Prop := moveGoesRow.holds Tryz.pinned (OpenSpec.ofChange moveGoesSpec)

/-- ITS FALSE NEIGHBOUR: 'it returns false'. Refute it at one input. -/
def moveGoesWrong : ChangeSpec := { name := "moveGoes", fn := fun _ => fun
  | [d1, d2, d3, d4, d5] => { results := [.lit (.bool false)], args := [d1, d2, d3, d4, d5] }
  | _ => none }
def MoveGoesWrongFalsely : Prop := moveGoesRow.holds Tryz.pinned (OpenSpec.ofChange moveGoesWrong)

/- THE SECOND FORM. 'bulk': how many values and letters a reading holds, each counted each time it is reached (what is shared counts as often as it is met; a slice's spare places count too). A statement '..UptoSaid' is the law's where the arguments, and the package variables that the reading takes, are together of bulk at most 1048576: NARROWER than '..Said'. Prove '..Said' where nothing that the law and all that it calls make is longer than what came in: it says more and counts as full. Else prove '..UptoSaid'. A law counts once. -/
mutual
def uptoBulk {H : Type} : DataW H → Nat
  | .lit (.string bytes) => bytes.length + 1
  | .lit _ => 1
  | .nil => 1
  | .ptr d => uptoBulk d + 1
  | .slice elems spare => uptoBulkAll elems + uptoBulkAll spare + 1
  | .agg parts => uptoBulkAll parts + 1
  | .iface _ d => uptoBulk d + 1
  | .map entries => uptoBulkEntries entries + 1
  | .held _ => 1
def uptoBulkAll {H : Type} : List (DataW H) → Nat
  | [] => 0
  | d :: r => uptoBulk d + uptoBulkAll r
def uptoBulkEntries {H : Type} : List (Lit × DataW H) → Nat
  | [] => 0
  | x :: r => uptoBulkEntry x + uptoBulkEntries r
def uptoBulkEntry {H : Type} : Lit × DataW H → Nat
  | (.string bytes, d) => bytes.length + uptoBulk d + 1
  | (_, d) => uptoBulk d + 1
 end
def uptoSmall : (H : Type) → List (DataW H) → Bool := fun _ ds => decide (uptoBulkAll ds ≤ 1048576)
def OpenSpec.upto (s : _root_.Go.ChangeSpec) : _root_.Go.OpenSpec := { _root_.Go.OpenSpec.ofChange s with cond := some uptoSmall }

/-- 'bodkinlaw11.LinesColumns', WHERE WHAT IT READS IS OF BULK AT MOST 1048576: true; the input reads as it did. -/
def linesColumnsUptoRow : OpenClaim := { program := "ytclgplkkajfenaagreatdoor", sum := "2fe0882ab8bda2c75f29ca876f571e51e95e6d202d582686d13836859891ade4", func := "bodkin/bodkinlaw11.LinesColumns", spec := "linesColumns", inPlace := ["internal/bytealg.CountString", "internal/bytealg.IndexByteString", "internal/bytealg.IndexString"], unfollowed := true, recurses := true, named := ["unicode/utf8.first", "unicode/utf8.acceptRanges", "internal/bytealg.MaxLen"], apart := false, laid := [("unicode/utf8.acceptRanges", laid_unicode_utf8_acceptRanges), ("unicode/utf8.first", laid_unicode_utf8_first)], narrowed := true }
def LinesColumnsUptoSaid : Prop := linesColumnsUptoRow.holds Tryz.pinned (OpenSpec.upto linesColumnsSpec)

/-- 'bodkinlaw11.LinesBack', WHERE WHAT IT READS IS OF BULK AT MOST 1048576: true; the input reads as it did. -/
def linesBackUptoRow : OpenClaim := { program := "ytclgplkkajfenaagreatdoor", sum := "2fe0882ab8bda2c75f29ca876f571e51e95e6d202d582686d13836859891ade4", func := "bodkin/bodkinlaw11.LinesBack", spec := "linesBack", inPlace := ["internal/bytealg.CountString", "internal/bytealg.IndexByteString", "internal/bytealg.IndexString"], unfollowed := true, recurses := true, named := ["unicode/utf8.first", "unicode/utf8.acceptRanges", "internal/bytealg.MaxLen"], apart := false, laid := [("unicode/utf8.acceptRanges", laid_unicode_utf8_acceptRanges), ("unicode/utf8.first", laid_unicode_utf8_first)], narrowed := true }
def LinesBackUptoSaid : Prop := linesBackUptoRow.holds Tryz.pinned (OpenSpec.upto linesBackSpec)

/-- 'bodkinlaw11.LinesAlike', WHERE WHAT IT READS IS OF BULK AT MOST 1048576: true; the input reads as it did. -/
def linesAlikeUptoRow : OpenClaim := { program := "ytclgplkkajfenaagreatdoor", sum := "2fe0882ab8bda2c75f29ca876f571e51e95e6d202d582686d13836859891ade4", func := "bodkin/bodkinlaw11.LinesAlike", spec := "linesAlike", inPlace := ["internal/bytealg.CountString", "internal/bytealg.IndexByteString", "internal/bytealg.IndexString"], unfollowed := true, recurses := true, named := ["unicode/utf8.first", "unicode/utf8.acceptRanges", "internal/bytealg.MaxLen"], apart := false, laid := [("unicode/utf8.acceptRanges", laid_unicode_utf8_acceptRanges), ("unicode/utf8.first", laid_unicode_utf8_first)], narrowed := true }
def LinesAlikeUptoSaid : Prop := linesAlikeUptoRow.holds Tryz.pinned (OpenSpec.upto linesAlikeSpec)

/-- 'bodkinlaw11.LinesSpans', WHERE WHAT IT READS IS OF BULK AT MOST 1048576: true; the input reads as it did. -/
def linesSpansUptoRow : OpenClaim := { program := "ytclgplkkajfenaagreatdoor", sum := "2fe0882ab8bda2c75f29ca876f571e51e95e6d202d582686d13836859891ade4", func := "bodkin/bodkinlaw11.LinesSpans", spec := "linesSpans", inPlace := ["internal/bytealg.CountString", "internal/bytealg.IndexByteString", "internal/bytealg.IndexString"], unfollowed := true, recurses := true, named := ["unicode/utf8.first", "unicode/utf8.acceptRanges", "internal/bytealg.MaxLen"], apart := false, laid := [("unicode/utf8.acceptRanges", laid_unicode_utf8_acceptRanges), ("unicode/utf8.first", laid_unicode_utf8_first)], narrowed := true }
def LinesSpansUptoSaid : Prop := linesSpansUptoRow.holds Tryz.pinned (OpenSpec.upto linesSpansSpec)

/-- 'bodkinlaw11.LinesTile', WHERE WHAT IT READS IS OF BULK AT MOST 1048576: true; the input reads as it did. -/
def linesTileUptoRow : OpenClaim := { program := "ytclgplkkajfenaagreatdoor", sum := "2fe0882ab8bda2c75f29ca876f571e51e95e6d202d582686d13836859891ade4", func := "bodkin/bodkinlaw11.LinesTile", spec := "linesTile", inPlace := ["internal/bytealg.CountString", "internal/bytealg.IndexByteString", "internal/bytealg.IndexString"], unfollowed := true, recurses := true, named := ["unicode/utf8.first", "unicode/utf8.acceptRanges", "internal/bytealg.MaxLen"], apart := false, laid := [("unicode/utf8.acceptRanges", laid_unicode_utf8_acceptRanges), ("unicode/utf8.first", laid_unicode_utf8_first)], narrowed := true }
def LinesTileUptoSaid : Prop := linesTileUptoRow.holds Tryz.pinned (OpenSpec.upto linesTileSpec)

/-- 'bodkinlaw11.LinesNil', WHERE WHAT IT READS IS OF BULK AT MOST 1048576: true; the input reads as it did. -/
def linesNilUptoRow : OpenClaim := { program := "ytclgplkkajfenaagreatdoor", sum := "2fe0882ab8bda2c75f29ca876f571e51e95e6d202d582686d13836859891ade4", func := "bodkin/bodkinlaw11.LinesNil", spec := "linesNil", inPlace := ["internal/bytealg.CountString", "internal/bytealg.IndexByteString", "internal/bytealg.IndexString"], unfollowed := true, recurses := true, named := ["unicode/utf8.first", "unicode/utf8.acceptRanges", "internal/bytealg.MaxLen"], apart := false, laid := [("unicode/utf8.acceptRanges", laid_unicode_utf8_acceptRanges), ("unicode/utf8.first", laid_unicode_utf8_first)], narrowed := true }
def LinesNilUptoSaid : Prop := linesNilUptoRow.holds Tryz.pinned (OpenSpec.upto linesNilSpec)

/-- 'bodkinlaw09.StoreTexts', WHERE WHAT IT READS IS OF BULK AT MOST 1048576: true; the input reads as it did. -/
def storeTextsUptoRow : OpenClaim := { program := "ytclgplkkajfenaagreatdoor", sum := "2fe0882ab8bda2c75f29ca876f571e51e95e6d202d582686d13836859891ade4", func := "bodkin/bodkinlaw09.StoreTexts", spec := "storeTexts", inPlace := ["internal/bytealg.CountString", "internal/bytealg.IndexByteString", "internal/bytealg.IndexString"], unfollowed := true, recurses := true, named := ["unicode/utf8.first", "unicode/utf8.acceptRanges", "internal/bytealg.MaxLen"], apart := false, laid := [("unicode/utf8.acceptRanges", laid_unicode_utf8_acceptRanges), ("unicode/utf8.first", laid_unicode_utf8_first)], narrowed := true }
def StoreTextsUptoSaid : Prop := storeTextsUptoRow.holds Tryz.pinned (OpenSpec.upto storeTextsSpec)

/-- 'bodkinlaw11.LinesKeeps', WHERE WHAT IT READS IS OF BULK AT MOST 1048576: true; the input reads as it did. -/
def linesKeepsUptoRow : OpenClaim := { program := "ytclgplkkajfenaagreatdoor", sum := "2fe0882ab8bda2c75f29ca876f571e51e95e6d202d582686d13836859891ade4", func := "bodkin/bodkinlaw11.LinesKeeps", spec := "linesKeeps", inPlace := ["internal/bytealg.CountString", "internal/bytealg.IndexByteString", "internal/bytealg.IndexString"], unfollowed := true, recurses := true, named := ["unicode/utf8.first", "unicode/utf8.acceptRanges", "internal/bytealg.MaxLen"], apart := false, laid := [("unicode/utf8.acceptRanges", laid_unicode_utf8_acceptRanges), ("unicode/utf8.first", laid_unicode_utf8_first)], narrowed := true }
def LinesKeepsUptoSaid : Prop := linesKeepsUptoRow.holds Tryz.pinned (OpenSpec.upto linesKeepsSpec)

/-- 'bodkinlaw09.StorePlays', WHERE WHAT IT READS IS OF BULK AT MOST 1048576: true; the input reads as it did. -/
def storePlaysUptoRow : OpenClaim := { program := "ytclgplkkajfenaagreatdoor", sum := "2fe0882ab8bda2c75f29ca876f571e51e95e6d202d582686d13836859891ade4", func := "bodkin/bodkinlaw09.StorePlays", spec := "storePlays", inPlace := ["internal/bytealg.CountString", "internal/bytealg.IndexByteString", "internal/bytealg.IndexString"], unfollowed := true, recurses := true, named := ["unicode/utf8.first", "unicode/utf8.acceptRanges", "internal/bytealg.MaxLen"], apart := false, laid := [("unicode/utf8.acceptRanges", laid_unicode_utf8_acceptRanges), ("unicode/utf8.first", laid_unicode_utf8_first)], narrowed := true }
def StorePlaysUptoSaid : Prop := storePlaysUptoRow.holds Tryz.pinned (OpenSpec.upto storePlaysSpec)

/-- 'bodkinlaw09.StoreUnseen', WHERE WHAT IT READS IS OF BULK AT MOST 1048576: true; the input reads as it did. -/
def storeUnseenUptoRow : OpenClaim := { program := "ytclgplkkajfenaagreatdoor", sum := "2fe0882ab8bda2c75f29ca876f571e51e95e6d202d582686d13836859891ade4", func := "bodkin/bodkinlaw09.StoreUnseen", spec := "storeUnseen", inPlace := ["internal/bytealg.CountString", "internal/bytealg.IndexByteString", "internal/bytealg.IndexString"], unfollowed := true, recurses := true, named := ["unicode/utf8.first", "unicode/utf8.acceptRanges", "internal/bytealg.MaxLen"], apart := false, laid := [("unicode/utf8.acceptRanges", laid_unicode_utf8_acceptRanges), ("unicode/utf8.first", laid_unicode_utf8_first)], narrowed := true }
def StoreUnseenUptoSaid : Prop := storeUnseenUptoRow.holds Tryz.pinned (OpenSpec.upto storeUnseenSpec)

/-- 'bodkinlaw09.StoreClones', WHERE WHAT IT READS IS OF BULK AT MOST 1048576: true; the input reads as it did. -/
def storeClonesUptoRow : OpenClaim := { program := "ytclgplkkajfenaagreatdoor", sum := "2fe0882ab8bda2c75f29ca876f571e51e95e6d202d582686d13836859891ade4", func := "bodkin/bodkinlaw09.StoreClones", spec := "storeClones", inPlace := ["internal/bytealg.CountString", "internal/bytealg.IndexByteString", "internal/bytealg.IndexString"], unfollowed := true, recurses := true, named := ["unicode/utf8.first", "unicode/utf8.acceptRanges", "internal/bytealg.MaxLen"], apart := false, laid := [("unicode/utf8.acceptRanges", laid_unicode_utf8_acceptRanges), ("unicode/utf8.first", laid_unicode_utf8_first)], narrowed := true }
def StoreClonesUptoSaid : Prop := storeClonesUptoRow.holds Tryz.pinned (OpenSpec.upto storeClonesSpec)

/-- 'bodkinlaw09.StoreEnds', WHERE WHAT IT READS IS OF BULK AT MOST 1048576: true; the input reads as it did. -/
def storeEndsUptoRow : OpenClaim := { program := "ytclgplkkajfenaagreatdoor", sum := "2fe0882ab8bda2c75f29ca876f571e51e95e6d202d582686d13836859891ade4", func := "bodkin/bodkinlaw09.StoreEnds", spec := "storeEnds", inPlace := ["internal/bytealg.CountString", "internal/bytealg.IndexByteString", "internal/bytealg.IndexString"], unfollowed := true, recurses := true, named := ["unicode/utf8.first", "unicode/utf8.acceptRanges", "internal/bytealg.MaxLen"], apart := false, laid := [("unicode/utf8.acceptRanges", laid_unicode_utf8_acceptRanges), ("unicode/utf8.first", laid_unicode_utf8_first)], narrowed := true }
def StoreEndsUptoSaid : Prop := storeEndsUptoRow.holds Tryz.pinned (OpenSpec.upto storeEndsSpec)

/-- 'bodkinlaw11.LinesWalks', WHERE WHAT IT READS IS OF BULK AT MOST 1048576: true; the input reads as it did. -/
def linesWalksUptoRow : OpenClaim := { program := "ytclgplkkajfenaagreatdoor", sum := "2fe0882ab8bda2c75f29ca876f571e51e95e6d202d582686d13836859891ade4", func := "bodkin/bodkinlaw11.LinesWalks", spec := "linesWalks", inPlace := ["internal/bytealg.CountString", "internal/bytealg.IndexByteString", "internal/bytealg.IndexString"], unfollowed := true, recurses := true, named := ["unicode/utf8.first", "unicode/utf8.acceptRanges", "internal/bytealg.MaxLen"], apart := false, laid := [("unicode/utf8.acceptRanges", laid_unicode_utf8_acceptRanges), ("unicode/utf8.first", laid_unicode_utf8_first)], narrowed := true }
def LinesWalksUptoSaid : Prop := linesWalksUptoRow.holds Tryz.pinned (OpenSpec.upto linesWalksSpec)

/-- 'bodkinlaw16.MoveWalks', WHERE WHAT IT READS IS OF BULK AT MOST 1048576: true; the input reads as it did. -/
def moveWalksUptoRow : OpenClaim := { program := "ytclgplkkajfenaagreatdoor", sum := "2fe0882ab8bda2c75f29ca876f571e51e95e6d202d582686d13836859891ade4", func := "bodkin/bodkinlaw16.MoveWalks", spec := "moveWalks", inPlace := ["internal/bytealg.CountString", "internal/bytealg.IndexByteString", "internal/bytealg.IndexString"], unfollowed := true, recurses := true, named := ["unicode/utf8.first", "unicode/utf8.acceptRanges", "internal/bytealg.MaxLen"], apart := false, laid := [("unicode/utf8.acceptRanges", laid_unicode_utf8_acceptRanges), ("unicode/utf8.first", laid_unicode_utf8_first)], narrowed := true }
def MoveWalksUptoSaid : Prop := moveWalksUptoRow.holds Tryz.pinned (OpenSpec.upto moveWalksSpec)

/-- 'bodkinlaw16.MoveStays', WHERE WHAT IT READS IS OF BULK AT MOST 1048576: true; the input reads as it did. -/
def moveStaysUptoRow : OpenClaim := { program := "ytclgplkkajfenaagreatdoor", sum := "2fe0882ab8bda2c75f29ca876f571e51e95e6d202d582686d13836859891ade4", func := "bodkin/bodkinlaw16.MoveStays", spec := "moveStays", inPlace := ["internal/bytealg.CountString", "internal/bytealg.IndexByteString", "internal/bytealg.IndexString"], unfollowed := true, recurses := true, named := ["unicode/utf8.first", "unicode/utf8.acceptRanges", "internal/bytealg.MaxLen"], apart := false, laid := [("unicode/utf8.acceptRanges", laid_unicode_utf8_acceptRanges), ("unicode/utf8.first", laid_unicode_utf8_first)], narrowed := true }
def MoveStaysUptoSaid : Prop := moveStaysUptoRow.holds Tryz.pinned (OpenSpec.upto moveStaysSpec)

/-- 'bodkinlaw16.MoveGoal', WHERE WHAT IT READS IS OF BULK AT MOST 1048576: true; the input reads as it did. -/
def moveGoalUptoRow : OpenClaim := { program := "ytclgplkkajfenaagreatdoor", sum := "2fe0882ab8bda2c75f29ca876f571e51e95e6d202d582686d13836859891ade4", func := "bodkin/bodkinlaw16.MoveGoal", spec := "moveGoal", inPlace := ["internal/bytealg.CountString", "internal/bytealg.IndexByteString", "internal/bytealg.IndexString"], unfollowed := true, recurses := true, named := ["unicode/utf8.first", "unicode/utf8.acceptRanges", "internal/bytealg.MaxLen"], apart := false, laid := [("unicode/utf8.acceptRanges", laid_unicode_utf8_acceptRanges), ("unicode/utf8.first", laid_unicode_utf8_first)], narrowed := true }
def MoveGoalUptoSaid : Prop := moveGoalUptoRow.holds Tryz.pinned (OpenSpec.upto moveGoalSpec)

/-- 'bodkinlaw16.MovePlaces', WHERE WHAT IT READS IS OF BULK AT MOST 1048576: true; the input reads as it did. -/
def movePlacesUptoRow : OpenClaim := { program := "ytclgplkkajfenaagreatdoor", sum := "2fe0882ab8bda2c75f29ca876f571e51e95e6d202d582686d13836859891ade4", func := "bodkin/bodkinlaw16.MovePlaces", spec := "movePlaces", inPlace := ["internal/bytealg.CountString", "internal/bytealg.IndexByteString", "internal/bytealg.IndexString"], unfollowed := true, recurses := true, named := ["unicode/utf8.first", "unicode/utf8.acceptRanges", "internal/bytealg.MaxLen"], apart := false, laid := [("unicode/utf8.acceptRanges", laid_unicode_utf8_acceptRanges), ("unicode/utf8.first", laid_unicode_utf8_first)], narrowed := true }
def MovePlacesUptoSaid : Prop := movePlacesUptoRow.holds Tryz.pinned (OpenSpec.upto movePlacesSpec)

/-- 'bodkinlaw16.MoveGoes', WHERE WHAT IT READS IS OF BULK AT MOST 1048576: true; the input reads as it did. -/
def moveGoesUptoRow : OpenClaim := { program := "ytclgplkkajfenaagreatdoor", sum := "2fe0882ab8bda2c75f29ca876f571e51e95e6d202d582686d13836859891ade4", func := "bodkin/bodkinlaw16.MoveGoes", spec := "moveGoes", inPlace := ["internal/bytealg.CountString", "internal/bytealg.IndexByteString", "internal/bytealg.IndexString"], unfollowed := true, recurses := true, named := ["unicode/utf8.first", "unicode/utf8.acceptRanges", "internal/bytealg.MaxLen"], apart := false, laid := [("unicode/utf8.acceptRanges", laid_unicode_utf8_acceptRanges), ("unicode/utf8.first", laid_unicode_utf8_first)], narrowed := true }
def MoveGoesUptoSaid : Prop := moveGoesUptoRow.holds Tryz.pinned (OpenSpec.upto moveGoesSpec)

end Rows
end Go.Proofs.YtclgplkkajfenaaGreatDoor
