/-
  NARROWER THAN 'FOR EVERY INPUT', by the rows' own cells (each row's printed sentence says how): TopPoints: laid · WholeLetters: laid · WholeAlternated: laid · WholeJoined: laid · TopBytes: laid · TopPacks: laid · TopAnswers: laid · WholeWritten: laid · WholeHeads: laid.
  DERIVED. THE GIVEN ROWS OF THIS SEAT. 9 by the template 'for every input the law returns true; each argument reads behind the call as it read before'; 0 by the template 'total and deterministic' (their statements: YtdhakdifgcepoaaGreatDoorTotals.lean).
  GIVEN WITH THE SEED: the statements are not yours to turn. If you find one false, say at which input.
  Laid BY PROGRAM, IN A SANDBOX (cutbox-rows.mjs): the forced cells as the released guide's own fill.sh prints them over the translation fd5aea725dcb16a2… (all of the seat's roots in one cut). By AI agents, Wed Nov 11 2026. No macro, syntax, notation, axiom, sorry.
-/
import Derived.Test.YtdhakdifgcepoaaGreatDoorChecked
import GoSem.Claim
import GoSem.ClaimJoined
import GoSem.ClaimMapViews
import Derived.JoinedTies
import Derived.KernelRfl
namespace Go.Proofs.YtdhakdifgcepoaaGreatDoor
/- THE CELL 'sum', in the pinned program and in every row, IS THE sha256 OF THE DUMP (.gsa) THAT YtdhakdifgcepoaaGreatDoorProg.lean LOADS. Nothing in Lean hashes anything: it is a label: what it is worth is what the hold of that sum in a sandbox is worth. -/
noncomputable def Tryz.pinned : Pinned := { name := "ytdhakdifgcepoaagreatdoor", sum := "fd5aea725dcb16a2d1196fd15bcc7331a298f277118a2dc864ddc934481d08f7", checked := Tryz.checked }
namespace Rows
def none {H : Type} : Left H := { results := [], args := [] }

/- WHAT THE LISTED PACKAGE-LEVEL VARIABLES READ AS WHEN THE CALL BEGINS. Each datum BY PROGRAM (the guide's laid-datum.mjs) off the statement by which the dump's own 'gosem.cut.vars' lays the variable. In a bare row this is a premise. The card (YtdhakdifgcepoaaGreatDoorCards.lean) ties it to the program's text. -/
def laid_collimator_blame_errBytes {H : Type} : DataW H := .iface "*errors.errorString" (.ptr (.agg [.lit (.string [98, 121, 116, 101, 115])]))
def laid_collimator_blame_errCodes {H : Type} : DataW H := .iface "*errors.errorString" (.ptr (.agg [.lit (.string [99, 111, 100, 101, 115])]))
def laid_collimator_blame_errTexts {H : Type} : DataW H := .iface "*errors.errorString" (.ptr (.agg [.lit (.string [116, 101, 120, 116, 115])]))
def laid_collimator_blame_errRoom {H : Type} : DataW H := .iface "*errors.errorString" (.ptr (.agg [.lit (.string [114, 111, 111, 109])]))
def laid_collimator_blame_errOther {H : Type} : DataW H := .iface "*errors.errorString" (.ptr (.agg [.lit (.string [111, 116, 104, 101, 114])]))
def laid_math_bits_deBruijn64tab {H : Type} : DataW H := .agg [.lit (.int .u8 0), .lit (.int .u8 1), .lit (.int .u8 56), .lit (.int .u8 2), .lit (.int .u8 57), .lit (.int .u8 49), .lit (.int .u8 28), .lit (.int .u8 3), .lit (.int .u8 61), .lit (.int .u8 58), .lit (.int .u8 42), .lit (.int .u8 50), .lit (.int .u8 38), .lit (.int .u8 29), .lit (.int .u8 17), .lit (.int .u8 4), .lit (.int .u8 62), .lit (.int .u8 47), .lit (.int .u8 59), .lit (.int .u8 36), .lit (.int .u8 45), .lit (.int .u8 43), .lit (.int .u8 51), .lit (.int .u8 22), .lit (.int .u8 53), .lit (.int .u8 39), .lit (.int .u8 33), .lit (.int .u8 30), .lit (.int .u8 24), .lit (.int .u8 18), .lit (.int .u8 12), .lit (.int .u8 5), .lit (.int .u8 63), .lit (.int .u8 55), .lit (.int .u8 48), .lit (.int .u8 27), .lit (.int .u8 60), .lit (.int .u8 41), .lit (.int .u8 37), .lit (.int .u8 16), .lit (.int .u8 46), .lit (.int .u8 35), .lit (.int .u8 44), .lit (.int .u8 21), .lit (.int .u8 52), .lit (.int .u8 32), .lit (.int .u8 23), .lit (.int .u8 11), .lit (.int .u8 54), .lit (.int .u8 26), .lit (.int .u8 40), .lit (.int .u8 15), .lit (.int .u8 34), .lit (.int .u8 20), .lit (.int .u8 31), .lit (.int .u8 10), .lit (.int .u8 25), .lit (.int .u8 14), .lit (.int .u8 19), .lit (.int .u8 9), .lit (.int .u8 13), .lit (.int .u8 8), .lit (.int .u8 7), .lit (.int .u8 6)]
def laid_errors_errorType {H : Type} : DataW H := .iface "internal/reflectlite.rtype" (.agg [.ptr (.lit (.string [101, 114, 114, 111, 114]))])

/-- 'collimatortop.TopPoints': WHATEVER THE INPUT: true; the input reads as it did. -/
def topPointsSpec : ChangeSpec := { name := "topPoints", fn := fun _ => fun
  | [d1, d2] => { results := [.lit (.bool true)], args := [d1, d2] }
  | _ => none }
def topPointsRow : OpenClaim := { program := "ytdhakdifgcepoaagreatdoor", sum := "fd5aea725dcb16a2d1196fd15bcc7331a298f277118a2dc864ddc934481d08f7", func := "collimator/collimatortop.TopPoints", spec := "topPoints", inPlace := ["internal/reflectlite.ValueOf", "(internal/reflectlite.Value).Type", "(internal/reflectlite.Value).IsNil", "internal/reflectlite.TypeOf", "(internal/reflectlite.Value).Elem", "(internal/reflectlite.Value).Set"], unfollowed := true, recurses := true, named := ["collimator/blame.errBytes", "collimator/blame.errCodes", "collimator/blame.errTexts", "collimator/blame.errRoom", "collimator/blame.errOther", "math/bits.deBruijn64tab", "errors.errorType"], plainKeys := false, leaving := true, apart := false, laid := [("collimator/blame.errBytes", laid_collimator_blame_errBytes), ("collimator/blame.errCodes", laid_collimator_blame_errCodes), ("collimator/blame.errTexts", laid_collimator_blame_errTexts), ("collimator/blame.errRoom", laid_collimator_blame_errRoom), ("collimator/blame.errOther", laid_collimator_blame_errOther), ("math/bits.deBruijn64tab", laid_math_bits_deBruijn64tab), ("errors.errorType", laid_errors_errorType)] }
def TopPointsSaid : Prop := topPointsRow.holds Tryz.pinned (OpenSpec.ofChange topPointsSpec)

/-- ITS FALSE NEIGHBOUR: 'it returns false'. Refute it at one input. -/
def topPointsWrong : ChangeSpec := { name := "topPoints", fn := fun _ => fun
  | [d1, d2] => { results := [.lit (.bool false)], args := [d1, d2] }
  | _ => none }
def TopPointsWrongFalsely : Prop := topPointsRow.holds Tryz.pinned (OpenSpec.ofChange topPointsWrong)

/-- 'collimatortop.WholeLetters': WHATEVER THE INPUT: true; the input reads as it did. -/
def wholeLettersSpec : ChangeSpec := { name := "wholeLetters", fn := fun _ => fun
  | [d1, d2, d3] => { results := [.lit (.bool true)], args := [d1, d2, d3] }
  | _ => none }
def wholeLettersRow : OpenClaim := { program := "ytdhakdifgcepoaagreatdoor", sum := "fd5aea725dcb16a2d1196fd15bcc7331a298f277118a2dc864ddc934481d08f7", func := "collimator/collimatortop.WholeLetters", spec := "wholeLetters", inPlace := ["internal/reflectlite.ValueOf", "(internal/reflectlite.Value).Type", "(internal/reflectlite.Value).IsNil", "internal/reflectlite.TypeOf", "(internal/reflectlite.Value).Elem", "(internal/reflectlite.Value).Set"], unfollowed := true, recurses := true, named := ["collimator/blame.errBytes", "collimator/blame.errCodes", "collimator/blame.errTexts", "collimator/blame.errRoom", "collimator/blame.errOther", "math/bits.deBruijn64tab", "errors.errorType"], plainKeys := false, leaving := true, apart := false, laid := [("collimator/blame.errBytes", laid_collimator_blame_errBytes), ("collimator/blame.errCodes", laid_collimator_blame_errCodes), ("collimator/blame.errTexts", laid_collimator_blame_errTexts), ("collimator/blame.errRoom", laid_collimator_blame_errRoom), ("collimator/blame.errOther", laid_collimator_blame_errOther), ("math/bits.deBruijn64tab", laid_math_bits_deBruijn64tab), ("errors.errorType", laid_errors_errorType)] }
def WholeLettersSaid : Prop := wholeLettersRow.holds Tryz.pinned (OpenSpec.ofChange wholeLettersSpec)

/-- ITS FALSE NEIGHBOUR: 'it returns false'. Refute it at one input. -/
def wholeLettersWrong : ChangeSpec := { name := "wholeLetters", fn := fun _ => fun
  | [d1, d2, d3] => { results := [.lit (.bool false)], args := [d1, d2, d3] }
  | _ => none }
def WholeLettersWrongFalsely : Prop := wholeLettersRow.holds Tryz.pinned (OpenSpec.ofChange wholeLettersWrong)

/-- 'collimatortop.WholeAlternated': WHATEVER THE INPUT: true; the input reads as it did. -/
def wholeAlternatedSpec : ChangeSpec := { name := "wholeAlternated", fn := fun _ => fun
  | [d1, d2, d3] => { results := [.lit (.bool true)], args := [d1, d2, d3] }
  | _ => none }
def wholeAlternatedRow : OpenClaim := { program := "ytdhakdifgcepoaagreatdoor", sum := "fd5aea725dcb16a2d1196fd15bcc7331a298f277118a2dc864ddc934481d08f7", func := "collimator/collimatortop.WholeAlternated", spec := "wholeAlternated", inPlace := ["internal/reflectlite.ValueOf", "(internal/reflectlite.Value).Type", "(internal/reflectlite.Value).IsNil", "internal/reflectlite.TypeOf", "(internal/reflectlite.Value).Elem", "(internal/reflectlite.Value).Set"], unfollowed := true, recurses := true, named := ["collimator/blame.errBytes", "collimator/blame.errCodes", "collimator/blame.errTexts", "collimator/blame.errRoom", "collimator/blame.errOther", "math/bits.deBruijn64tab", "errors.errorType"], plainKeys := false, leaving := true, apart := false, laid := [("collimator/blame.errBytes", laid_collimator_blame_errBytes), ("collimator/blame.errCodes", laid_collimator_blame_errCodes), ("collimator/blame.errTexts", laid_collimator_blame_errTexts), ("collimator/blame.errRoom", laid_collimator_blame_errRoom), ("collimator/blame.errOther", laid_collimator_blame_errOther), ("math/bits.deBruijn64tab", laid_math_bits_deBruijn64tab), ("errors.errorType", laid_errors_errorType)] }
def WholeAlternatedSaid : Prop := wholeAlternatedRow.holds Tryz.pinned (OpenSpec.ofChange wholeAlternatedSpec)

/-- ITS FALSE NEIGHBOUR: 'it returns false'. Refute it at one input. -/
def wholeAlternatedWrong : ChangeSpec := { name := "wholeAlternated", fn := fun _ => fun
  | [d1, d2, d3] => { results := [.lit (.bool false)], args := [d1, d2, d3] }
  | _ => none }
def WholeAlternatedWrongFalsely : Prop := wholeAlternatedRow.holds Tryz.pinned (OpenSpec.ofChange wholeAlternatedWrong)

/-- 'collimatortop.WholeJoined': WHATEVER THE INPUT: true; the input reads as it did. -/
def wholeJoinedSpec : ChangeSpec := { name := "wholeJoined", fn := fun _ => fun
  | [d1, d2, d3, d4] => { results := [.lit (.bool true)], args := [d1, d2, d3, d4] }
  | _ => none }
def wholeJoinedRow : OpenClaim := { program := "ytdhakdifgcepoaagreatdoor", sum := "fd5aea725dcb16a2d1196fd15bcc7331a298f277118a2dc864ddc934481d08f7", func := "collimator/collimatortop.WholeJoined", spec := "wholeJoined", inPlace := ["internal/reflectlite.ValueOf", "(internal/reflectlite.Value).Type", "(internal/reflectlite.Value).IsNil", "internal/reflectlite.TypeOf", "(internal/reflectlite.Value).Elem", "(internal/reflectlite.Value).Set"], unfollowed := true, recurses := true, named := ["collimator/blame.errBytes", "collimator/blame.errCodes", "collimator/blame.errTexts", "collimator/blame.errRoom", "collimator/blame.errOther", "math/bits.deBruijn64tab", "errors.errorType"], plainKeys := false, leaving := true, apart := false, laid := [("collimator/blame.errBytes", laid_collimator_blame_errBytes), ("collimator/blame.errCodes", laid_collimator_blame_errCodes), ("collimator/blame.errTexts", laid_collimator_blame_errTexts), ("collimator/blame.errRoom", laid_collimator_blame_errRoom), ("collimator/blame.errOther", laid_collimator_blame_errOther), ("math/bits.deBruijn64tab", laid_math_bits_deBruijn64tab), ("errors.errorType", laid_errors_errorType)] }
def WholeJoinedSaid : Prop := wholeJoinedRow.holds Tryz.pinned (OpenSpec.ofChange wholeJoinedSpec)

/-- ITS FALSE NEIGHBOUR: 'it returns false'. Refute it at one input. -/
def wholeJoinedWrong : ChangeSpec := { name := "wholeJoined", fn := fun _ => fun
  | [d1, d2, d3, d4] => { results := [.lit (.bool false)], args := [d1, d2, d3, d4] }
  | _ => none }
def WholeJoinedWrongFalsely : Prop := wholeJoinedRow.holds Tryz.pinned (OpenSpec.ofChange wholeJoinedWrong)

/-- 'collimatortop.TopBytes': WHATEVER THE INPUT: true; the input reads as it did. -/
def topBytesSpec : ChangeSpec := { name := "topBytes", fn := fun _ => fun
  | [d1, d2, d3] => { results := [.lit (.bool true)], args := [d1, d2, d3] }
  | _ => none }
def topBytesRow : OpenClaim := { program := "ytdhakdifgcepoaagreatdoor", sum := "fd5aea725dcb16a2d1196fd15bcc7331a298f277118a2dc864ddc934481d08f7", func := "collimator/collimatortop.TopBytes", spec := "topBytes", inPlace := ["internal/reflectlite.ValueOf", "(internal/reflectlite.Value).Type", "(internal/reflectlite.Value).IsNil", "internal/reflectlite.TypeOf", "(internal/reflectlite.Value).Elem", "(internal/reflectlite.Value).Set"], unfollowed := true, recurses := true, named := ["collimator/blame.errBytes", "collimator/blame.errCodes", "collimator/blame.errTexts", "collimator/blame.errRoom", "collimator/blame.errOther", "math/bits.deBruijn64tab", "errors.errorType"], plainKeys := false, leaving := true, apart := false, laid := [("collimator/blame.errBytes", laid_collimator_blame_errBytes), ("collimator/blame.errCodes", laid_collimator_blame_errCodes), ("collimator/blame.errTexts", laid_collimator_blame_errTexts), ("collimator/blame.errRoom", laid_collimator_blame_errRoom), ("collimator/blame.errOther", laid_collimator_blame_errOther), ("math/bits.deBruijn64tab", laid_math_bits_deBruijn64tab), ("errors.errorType", laid_errors_errorType)] }
def TopBytesSaid : Prop := topBytesRow.holds Tryz.pinned (OpenSpec.ofChange topBytesSpec)

/-- ITS FALSE NEIGHBOUR: 'it returns false'. Refute it at one input. -/
def topBytesWrong : ChangeSpec := { name := "topBytes", fn := fun _ => fun
  | [d1, d2, d3] => { results := [.lit (.bool false)], args := [d1, d2, d3] }
  | _ => none }
def TopBytesWrongFalsely : Prop := topBytesRow.holds Tryz.pinned (OpenSpec.ofChange topBytesWrong)

/-- 'collimatortop.TopPacks': WHATEVER THE INPUT: true; the input reads as it did. -/
def topPacksSpec : ChangeSpec := { name := "topPacks", fn := fun _ => fun
  | [d1, d2, d3] => { results := [.lit (.bool true)], args := [d1, d2, d3] }
  | _ => none }
def topPacksRow : OpenClaim := { program := "ytdhakdifgcepoaagreatdoor", sum := "fd5aea725dcb16a2d1196fd15bcc7331a298f277118a2dc864ddc934481d08f7", func := "collimator/collimatortop.TopPacks", spec := "topPacks", inPlace := ["internal/reflectlite.ValueOf", "(internal/reflectlite.Value).Type", "(internal/reflectlite.Value).IsNil", "internal/reflectlite.TypeOf", "(internal/reflectlite.Value).Elem", "(internal/reflectlite.Value).Set"], unfollowed := true, recurses := true, named := ["collimator/blame.errBytes", "collimator/blame.errCodes", "collimator/blame.errTexts", "collimator/blame.errRoom", "collimator/blame.errOther", "math/bits.deBruijn64tab", "errors.errorType"], plainKeys := false, leaving := true, apart := false, laid := [("collimator/blame.errBytes", laid_collimator_blame_errBytes), ("collimator/blame.errCodes", laid_collimator_blame_errCodes), ("collimator/blame.errTexts", laid_collimator_blame_errTexts), ("collimator/blame.errRoom", laid_collimator_blame_errRoom), ("collimator/blame.errOther", laid_collimator_blame_errOther), ("math/bits.deBruijn64tab", laid_math_bits_deBruijn64tab), ("errors.errorType", laid_errors_errorType)] }
def TopPacksSaid : Prop := topPacksRow.holds Tryz.pinned (OpenSpec.ofChange topPacksSpec)

/-- ITS FALSE NEIGHBOUR: 'it returns false'. Refute it at one input. -/
def topPacksWrong : ChangeSpec := { name := "topPacks", fn := fun _ => fun
  | [d1, d2, d3] => { results := [.lit (.bool false)], args := [d1, d2, d3] }
  | _ => none }
def TopPacksWrongFalsely : Prop := topPacksRow.holds Tryz.pinned (OpenSpec.ofChange topPacksWrong)

/-- 'collimatortop.TopAnswers': WHATEVER THE INPUT: true; the input reads as it did. -/
def topAnswersSpec : ChangeSpec := { name := "topAnswers", fn := fun _ => fun
  | [d] => { results := [.lit (.bool true)], args := [d] }
  | _ => none }
def topAnswersRow : OpenClaim := { program := "ytdhakdifgcepoaagreatdoor", sum := "fd5aea725dcb16a2d1196fd15bcc7331a298f277118a2dc864ddc934481d08f7", func := "collimator/collimatortop.TopAnswers", spec := "topAnswers", inPlace := ["internal/reflectlite.ValueOf", "(internal/reflectlite.Value).Type", "(internal/reflectlite.Value).IsNil", "internal/reflectlite.TypeOf", "(internal/reflectlite.Value).Elem", "(internal/reflectlite.Value).Set"], unfollowed := true, recurses := true, named := ["collimator/blame.errBytes", "collimator/blame.errCodes", "collimator/blame.errTexts", "collimator/blame.errRoom", "collimator/blame.errOther", "math/bits.deBruijn64tab", "errors.errorType"], plainKeys := false, leaving := true, apart := false, laid := [("collimator/blame.errBytes", laid_collimator_blame_errBytes), ("collimator/blame.errCodes", laid_collimator_blame_errCodes), ("collimator/blame.errTexts", laid_collimator_blame_errTexts), ("collimator/blame.errRoom", laid_collimator_blame_errRoom), ("collimator/blame.errOther", laid_collimator_blame_errOther), ("math/bits.deBruijn64tab", laid_math_bits_deBruijn64tab), ("errors.errorType", laid_errors_errorType)] }
def TopAnswersSaid : Prop := topAnswersRow.holds Tryz.pinned (OpenSpec.ofChange topAnswersSpec)

/-- ITS FALSE NEIGHBOUR: 'it returns false'. Refute it at one input. -/
def topAnswersWrong : ChangeSpec := { name := "topAnswers", fn := fun _ => fun
  | [d] => { results := [.lit (.bool false)], args := [d] }
  | _ => none }
def TopAnswersWrongFalsely : Prop := topAnswersRow.holds Tryz.pinned (OpenSpec.ofChange topAnswersWrong)

/-- 'collimatortop.WholeWritten': WHATEVER THE INPUT: true; the input reads as it did. -/
def wholeWrittenSpec : ChangeSpec := { name := "wholeWritten", fn := fun _ => fun
  | [d1, d2, d3] => { results := [.lit (.bool true)], args := [d1, d2, d3] }
  | _ => none }
def wholeWrittenRow : OpenClaim := { program := "ytdhakdifgcepoaagreatdoor", sum := "fd5aea725dcb16a2d1196fd15bcc7331a298f277118a2dc864ddc934481d08f7", func := "collimator/collimatortop.WholeWritten", spec := "wholeWritten", inPlace := ["internal/reflectlite.ValueOf", "(internal/reflectlite.Value).Type", "(internal/reflectlite.Value).IsNil", "internal/reflectlite.TypeOf", "(internal/reflectlite.Value).Elem", "(internal/reflectlite.Value).Set"], unfollowed := true, recurses := true, named := ["collimator/blame.errBytes", "collimator/blame.errCodes", "collimator/blame.errTexts", "collimator/blame.errRoom", "collimator/blame.errOther", "math/bits.deBruijn64tab", "errors.errorType"], plainKeys := false, leaving := true, apart := false, laid := [("collimator/blame.errBytes", laid_collimator_blame_errBytes), ("collimator/blame.errCodes", laid_collimator_blame_errCodes), ("collimator/blame.errTexts", laid_collimator_blame_errTexts), ("collimator/blame.errRoom", laid_collimator_blame_errRoom), ("collimator/blame.errOther", laid_collimator_blame_errOther), ("math/bits.deBruijn64tab", laid_math_bits_deBruijn64tab), ("errors.errorType", laid_errors_errorType)] }
def WholeWrittenSaid : Prop := wholeWrittenRow.holds Tryz.pinned (OpenSpec.ofChange wholeWrittenSpec)

/-- ITS FALSE NEIGHBOUR: 'it returns false'. Refute it at one input. -/
def wholeWrittenWrong : ChangeSpec := { name := "wholeWritten", fn := fun _ => fun
  | [d1, d2, d3] => { results := [.lit (.bool false)], args := [d1, d2, d3] }
  | _ => none }
def WholeWrittenWrongFalsely : Prop := wholeWrittenRow.holds Tryz.pinned (OpenSpec.ofChange wholeWrittenWrong)

/-- 'collimatortop.WholeHeads': WHATEVER THE INPUT: true; the input reads as it did. -/
def wholeHeadsSpec : ChangeSpec := { name := "wholeHeads", fn := fun _ => fun
  | [d1, d2, d3, d4] => { results := [.lit (.bool true)], args := [d1, d2, d3, d4] }
  | _ => none }
def wholeHeadsRow : OpenClaim := { program := "ytdhakdifgcepoaagreatdoor", sum := "fd5aea725dcb16a2d1196fd15bcc7331a298f277118a2dc864ddc934481d08f7", func := "collimator/collimatortop.WholeHeads", spec := "wholeHeads", inPlace := ["internal/reflectlite.ValueOf", "(internal/reflectlite.Value).Type", "(internal/reflectlite.Value).IsNil", "internal/reflectlite.TypeOf", "(internal/reflectlite.Value).Elem", "(internal/reflectlite.Value).Set"], unfollowed := true, recurses := true, named := ["collimator/blame.errBytes", "collimator/blame.errCodes", "collimator/blame.errTexts", "collimator/blame.errRoom", "collimator/blame.errOther", "math/bits.deBruijn64tab", "errors.errorType"], plainKeys := false, leaving := true, apart := false, laid := [("collimator/blame.errBytes", laid_collimator_blame_errBytes), ("collimator/blame.errCodes", laid_collimator_blame_errCodes), ("collimator/blame.errTexts", laid_collimator_blame_errTexts), ("collimator/blame.errRoom", laid_collimator_blame_errRoom), ("collimator/blame.errOther", laid_collimator_blame_errOther), ("math/bits.deBruijn64tab", laid_math_bits_deBruijn64tab), ("errors.errorType", laid_errors_errorType)] }
def WholeHeadsSaid : Prop := wholeHeadsRow.holds Tryz.pinned (OpenSpec.ofChange wholeHeadsSpec)

/-- ITS FALSE NEIGHBOUR: 'it returns false'. Refute it at one input. -/
def wholeHeadsWrong : ChangeSpec := { name := "wholeHeads", fn := fun _ => fun
  | [d1, d2, d3, d4] => { results := [.lit (.bool false)], args := [d1, d2, d3, d4] }
  | _ => none }
def WholeHeadsWrongFalsely : Prop := wholeHeadsRow.holds Tryz.pinned (OpenSpec.ofChange wholeHeadsWrong)

/- THE SECOND FORM. 'bulk': how many values and letters a reading holds, each counted each time it is reached (what is shared counts as often as it is met; a slice's spare places count too). A statement '..UptoSaid' is the law's where the arguments, and the package variables that the reading takes, are together of bulk at most 1048576: NARROWER than '..Said'. Prove '..Said' where nothing that the law and all that it calls make is longer than what came in: it says more and counts as full. Else prove '..UptoSaid'. A law counts once. -/
mutual
def uptoBulk {H : Type} : DataW H → Nat
  | .lit (.string bytes) => bytes.length + 1
  | .lit _ => 1
  | .nil => 1
  | .ptr d => uptoBulk d + 1
  | .slice elems spare => uptoBulkAll elems + uptoBulkAll spare + 1
  | .agg parts => uptoBulkAll parts + 1
  | .iface _ d => uptoBulk d + 1
  | .map entries => uptoBulkEntries entries + 1
  | .held _ => 1
def uptoBulkAll {H : Type} : List (DataW H) → Nat
  | [] => 0
  | d :: r => uptoBulk d + uptoBulkAll r
def uptoBulkEntries {H : Type} : List (Lit × DataW H) → Nat
  | [] => 0
  | x :: r => uptoBulkEntry x + uptoBulkEntries r
def uptoBulkEntry {H : Type} : Lit × DataW H → Nat
  | (.string bytes, d) => bytes.length + uptoBulk d + 1
  | (_, d) => uptoBulk d + 1
 end
def uptoSmall : (H : Type) → List (DataW H) → Bool := fun _ ds => decide (uptoBulkAll ds ≤ 1048576)
def OpenSpec.upto (s : _root_.Go.ChangeSpec) : _root_.Go.OpenSpec := { _root_.Go.OpenSpec.ofChange s with cond := some uptoSmall }

/-- 'collimatortop.TopPoints', WHERE WHAT IT READS IS OF BULK AT MOST 1048576: true; the input reads as it did. -/
def topPointsUptoRow : OpenClaim := { program := "ytdhakdifgcepoaagreatdoor", sum := "fd5aea725dcb16a2d1196fd15bcc7331a298f277118a2dc864ddc934481d08f7", func := "collimator/collimatortop.TopPoints", spec := "topPoints", inPlace := ["internal/reflectlite.ValueOf", "(internal/reflectlite.Value).Type", "(internal/reflectlite.Value).IsNil", "internal/reflectlite.TypeOf", "(internal/reflectlite.Value).Elem", "(internal/reflectlite.Value).Set"], unfollowed := true, recurses := true, named := ["collimator/blame.errBytes", "collimator/blame.errCodes", "collimator/blame.errTexts", "collimator/blame.errRoom", "collimator/blame.errOther", "math/bits.deBruijn64tab", "errors.errorType"], plainKeys := false, leaving := true, apart := false, laid := [("collimator/blame.errBytes", laid_collimator_blame_errBytes), ("collimator/blame.errCodes", laid_collimator_blame_errCodes), ("collimator/blame.errTexts", laid_collimator_blame_errTexts), ("collimator/blame.errRoom", laid_collimator_blame_errRoom), ("collimator/blame.errOther", laid_collimator_blame_errOther), ("math/bits.deBruijn64tab", laid_math_bits_deBruijn64tab), ("errors.errorType", laid_errors_errorType)], narrowed := true }
def TopPointsUptoSaid : Prop := topPointsUptoRow.holds Tryz.pinned (OpenSpec.upto topPointsSpec)

/-- 'collimatortop.WholeLetters', WHERE WHAT IT READS IS OF BULK AT MOST 1048576: true; the input reads as it did. -/
def wholeLettersUptoRow : OpenClaim := { program := "ytdhakdifgcepoaagreatdoor", sum := "fd5aea725dcb16a2d1196fd15bcc7331a298f277118a2dc864ddc934481d08f7", func := "collimator/collimatortop.WholeLetters", spec := "wholeLetters", inPlace := ["internal/reflectlite.ValueOf", "(internal/reflectlite.Value).Type", "(internal/reflectlite.Value).IsNil", "internal/reflectlite.TypeOf", "(internal/reflectlite.Value).Elem", "(internal/reflectlite.Value).Set"], unfollowed := true, recurses := true, named := ["collimator/blame.errBytes", "collimator/blame.errCodes", "collimator/blame.errTexts", "collimator/blame.errRoom", "collimator/blame.errOther", "math/bits.deBruijn64tab", "errors.errorType"], plainKeys := false, leaving := true, apart := false, laid := [("collimator/blame.errBytes", laid_collimator_blame_errBytes), ("collimator/blame.errCodes", laid_collimator_blame_errCodes), ("collimator/blame.errTexts", laid_collimator_blame_errTexts), ("collimator/blame.errRoom", laid_collimator_blame_errRoom), ("collimator/blame.errOther", laid_collimator_blame_errOther), ("math/bits.deBruijn64tab", laid_math_bits_deBruijn64tab), ("errors.errorType", laid_errors_errorType)], narrowed := true }
def WholeLettersUptoSaid : Prop := wholeLettersUptoRow.holds Tryz.pinned (OpenSpec.upto wholeLettersSpec)

/-- 'collimatortop.WholeAlternated', WHERE WHAT IT READS IS OF BULK AT MOST 1048576: true; the input reads as it did. -/
def wholeAlternatedUptoRow : OpenClaim := { program := "ytdhakdifgcepoaagreatdoor", sum := "fd5aea725dcb16a2d1196fd15bcc7331a298f277118a2dc864ddc934481d08f7", func := "collimator/collimatortop.WholeAlternated", spec := "wholeAlternated", inPlace := ["internal/reflectlite.ValueOf", "(internal/reflectlite.Value).Type", "(internal/reflectlite.Value).IsNil", "internal/reflectlite.TypeOf", "(internal/reflectlite.Value).Elem", "(internal/reflectlite.Value).Set"], unfollowed := true, recurses := true, named := ["collimator/blame.errBytes", "collimator/blame.errCodes", "collimator/blame.errTexts", "collimator/blame.errRoom", "collimator/blame.errOther", "math/bits.deBruijn64tab", "errors.errorType"], plainKeys := false, leaving := true, apart := false, laid := [("collimator/blame.errBytes", laid_collimator_blame_errBytes), ("collimator/blame.errCodes", laid_collimator_blame_errCodes), ("collimator/blame.errTexts", laid_collimator_blame_errTexts), ("collimator/blame.errRoom", laid_collimator_blame_errRoom), ("collimator/blame.errOther", laid_collimator_blame_errOther), ("math/bits.deBruijn64tab", laid_math_bits_deBruijn64tab), ("errors.errorType", laid_errors_errorType)], narrowed := true }
def WholeAlternatedUptoSaid : Prop := wholeAlternatedUptoRow.holds Tryz.pinned (OpenSpec.upto wholeAlternatedSpec)

/-- 'collimatortop.WholeJoined', WHERE WHAT IT READS IS OF BULK AT MOST 1048576: true; the input reads as it did. -/
def wholeJoinedUptoRow : OpenClaim := { program := "ytdhakdifgcepoaagreatdoor", sum := "fd5aea725dcb16a2d1196fd15bcc7331a298f277118a2dc864ddc934481d08f7", func := "collimator/collimatortop.WholeJoined", spec := "wholeJoined", inPlace := ["internal/reflectlite.ValueOf", "(internal/reflectlite.Value).Type", "(internal/reflectlite.Value).IsNil", "internal/reflectlite.TypeOf", "(internal/reflectlite.Value).Elem", "(internal/reflectlite.Value).Set"], unfollowed := true, recurses := true, named := ["collimator/blame.errBytes", "collimator/blame.errCodes", "collimator/blame.errTexts", "collimator/blame.errRoom", "collimator/blame.errOther", "math/bits.deBruijn64tab", "errors.errorType"], plainKeys := false, leaving := true, apart := false, laid := [("collimator/blame.errBytes", laid_collimator_blame_errBytes), ("collimator/blame.errCodes", laid_collimator_blame_errCodes), ("collimator/blame.errTexts", laid_collimator_blame_errTexts), ("collimator/blame.errRoom", laid_collimator_blame_errRoom), ("collimator/blame.errOther", laid_collimator_blame_errOther), ("math/bits.deBruijn64tab", laid_math_bits_deBruijn64tab), ("errors.errorType", laid_errors_errorType)], narrowed := true }
def WholeJoinedUptoSaid : Prop := wholeJoinedUptoRow.holds Tryz.pinned (OpenSpec.upto wholeJoinedSpec)

/-- 'collimatortop.TopBytes', WHERE WHAT IT READS IS OF BULK AT MOST 1048576: true; the input reads as it did. -/
def topBytesUptoRow : OpenClaim := { program := "ytdhakdifgcepoaagreatdoor", sum := "fd5aea725dcb16a2d1196fd15bcc7331a298f277118a2dc864ddc934481d08f7", func := "collimator/collimatortop.TopBytes", spec := "topBytes", inPlace := ["internal/reflectlite.ValueOf", "(internal/reflectlite.Value).Type", "(internal/reflectlite.Value).IsNil", "internal/reflectlite.TypeOf", "(internal/reflectlite.Value).Elem", "(internal/reflectlite.Value).Set"], unfollowed := true, recurses := true, named := ["collimator/blame.errBytes", "collimator/blame.errCodes", "collimator/blame.errTexts", "collimator/blame.errRoom", "collimator/blame.errOther", "math/bits.deBruijn64tab", "errors.errorType"], plainKeys := false, leaving := true, apart := false, laid := [("collimator/blame.errBytes", laid_collimator_blame_errBytes), ("collimator/blame.errCodes", laid_collimator_blame_errCodes), ("collimator/blame.errTexts", laid_collimator_blame_errTexts), ("collimator/blame.errRoom", laid_collimator_blame_errRoom), ("collimator/blame.errOther", laid_collimator_blame_errOther), ("math/bits.deBruijn64tab", laid_math_bits_deBruijn64tab), ("errors.errorType", laid_errors_errorType)], narrowed := true }
def TopBytesUptoSaid : Prop := topBytesUptoRow.holds Tryz.pinned (OpenSpec.upto topBytesSpec)

/-- 'collimatortop.TopPacks', WHERE WHAT IT READS IS OF BULK AT MOST 1048576: true; the input reads as it did. -/
def topPacksUptoRow : OpenClaim := { program := "ytdhakdifgcepoaagreatdoor", sum := "fd5aea725dcb16a2d1196fd15bcc7331a298f277118a2dc864ddc934481d08f7", func := "collimator/collimatortop.TopPacks", spec := "topPacks", inPlace := ["internal/reflectlite.ValueOf", "(internal/reflectlite.Value).Type", "(internal/reflectlite.Value).IsNil", "internal/reflectlite.TypeOf", "(internal/reflectlite.Value).Elem", "(internal/reflectlite.Value).Set"], unfollowed := true, recurses := true, named := ["collimator/blame.errBytes", "collimator/blame.errCodes", "collimator/blame.errTexts", "collimator/blame.errRoom", "collimator/blame.errOther", "math/bits.deBruijn64tab", "errors.errorType"], plainKeys := false, leaving := true, apart := false, laid := [("collimator/blame.errBytes", laid_collimator_blame_errBytes), ("collimator/blame.errCodes", laid_collimator_blame_errCodes), ("collimator/blame.errTexts", laid_collimator_blame_errTexts), ("collimator/blame.errRoom", laid_collimator_blame_errRoom), ("collimator/blame.errOther", laid_collimator_blame_errOther), ("math/bits.deBruijn64tab", laid_math_bits_deBruijn64tab), ("errors.errorType", laid_errors_errorType)], narrowed := true }
def TopPacksUptoSaid : Prop := topPacksUptoRow.holds Tryz.pinned (OpenSpec.upto topPacksSpec)

/-- 'collimatortop.TopAnswers', WHERE WHAT IT READS IS OF BULK AT MOST 1048576: true; the input reads as it did. -/
def topAnswersUptoRow : OpenClaim := { program := "ytdhakdifgcepoaagreatdoor", sum := "fd5aea725dcb16a2d1196fd15bcc7331a298f277118a2dc864ddc934481d08f7", func := "collimator/collimatortop.TopAnswers", spec := "topAnswers", inPlace := ["internal/reflectlite.ValueOf", "(internal/reflectlite.Value).Type", "(internal/reflectlite.Value).IsNil", "internal/reflectlite.TypeOf", "(internal/reflectlite.Value).Elem", "(internal/reflectlite.Value).Set"], unfollowed := true, recurses := true, named := ["collimator/blame.errBytes", "collimator/blame.errCodes", "collimator/blame.errTexts", "collimator/blame.errRoom", "collimator/blame.errOther", "math/bits.deBruijn64tab", "errors.errorType"], plainKeys := false, leaving := true, apart := false, laid := [("collimator/blame.errBytes", laid_collimator_blame_errBytes), ("collimator/blame.errCodes", laid_collimator_blame_errCodes), ("collimator/blame.errTexts", laid_collimator_blame_errTexts), ("collimator/blame.errRoom", laid_collimator_blame_errRoom), ("collimator/blame.errOther", laid_collimator_blame_errOther), ("math/bits.deBruijn64tab", laid_math_bits_deBruijn64tab), ("errors.errorType", laid_errors_errorType)], narrowed := true }
def TopAnswersUptoSaid : Prop := topAnswersUptoRow.holds Tryz.pinned (OpenSpec.upto topAnswersSpec)

/-- 'collimatortop.WholeWritten', WHERE WHAT IT READS IS OF BULK AT MOST 1048576: true; the input reads as it did. -/
def wholeWrittenUptoRow : OpenClaim := { program := "ytdhakdifgcepoaagreatdoor", sum := "fd5aea725dcb16a2d1196fd15bcc7331a298f277118a2dc864ddc934481d08f7", func := "collimator/collimatortop.WholeWritten", spec := "wholeWritten", inPlace := ["internal/reflectlite.ValueOf", "(internal/reflectlite.Value).Type", "(internal/reflectlite.Value).IsNil", "internal/reflectlite.TypeOf", "(internal/reflectlite.Value).Elem", "(internal/reflectlite.Value).Set"], unfollowed := true, recurses := true, named := ["collimator/blame.errBytes", "collimator/blame.errCodes", "collimator/blame.errTexts", "collimator/blame.errRoom", "collimator/blame.errOther", "math/bits.deBruijn64tab", "errors.errorType"], plainKeys := false, leaving := true, apart := false, laid := [("collimator/blame.errBytes", laid_collimator_blame_errBytes), ("collimator/blame.errCodes", laid_collimator_blame_errCodes), ("collimator/blame.errTexts", laid_collimator_blame_errTexts), ("collimator/blame.errRoom", laid_collimator_blame_errRoom), ("collimator/blame.errOther", laid_collimator_blame_errOther), ("math/bits.deBruijn64tab", laid_math_bits_deBruijn64tab), ("errors.errorType", laid_errors_errorType)], narrowed := true }
def WholeWrittenUptoSaid : Prop := wholeWrittenUptoRow.holds Tryz.pinned (OpenSpec.upto wholeWrittenSpec)

/-- 'collimatortop.WholeHeads', WHERE WHAT IT READS IS OF BULK AT MOST 1048576: true; the input reads as it did. -/
def wholeHeadsUptoRow : OpenClaim := { program := "ytdhakdifgcepoaagreatdoor", sum := "fd5aea725dcb16a2d1196fd15bcc7331a298f277118a2dc864ddc934481d08f7", func := "collimator/collimatortop.WholeHeads", spec := "wholeHeads", inPlace := ["internal/reflectlite.ValueOf", "(internal/reflectlite.Value).Type", "(internal/reflectlite.Value).IsNil", "internal/reflectlite.TypeOf", "(internal/reflectlite.Value).Elem", "(internal/reflectlite.Value).Set"], unfollowed := true, recurses := true, named := ["collimator/blame.errBytes", "collimator/blame.errCodes", "collimator/blame.errTexts", "collimator/blame.errRoom", "collimator/blame.errOther", "math/bits.deBruijn64tab", "errors.errorType"], plainKeys := false, leaving := true, apart := false, laid := [("collimator/blame.errBytes", laid_collimator_blame_errBytes), ("collimator/blame.errCodes", laid_collimator_blame_errCodes), ("collimator/blame.errTexts", laid_collimator_blame_errTexts), ("collimator/blame.errRoom", laid_collimator_blame_errRoom), ("collimator/blame.errOther", laid_collimator_blame_errOther), ("math/bits.deBruijn64tab", laid_math_bits_deBruijn64tab), ("errors.errorType", laid_errors_errorType)], narrowed := true }
def WholeHeadsUptoSaid : Prop := wholeHeadsUptoRow.holds Tryz.pinned (OpenSpec.upto wholeHeadsSpec)

end Rows
end Go.Proofs.YtdhakdifgcepoaaGreatDoor
