/-
  DERIVED. GIVEN WITH THE SEED: THE CARDS: each row of YtdhakdifgcepoaaGreatDoorRows.lean that lists a variable, with what it lists TIED to the program's text (the seventh form; the later family's looks); each row that meets fmt, with fmt's text TOLD by the authors' own Lean function (tested against real Go, not proved from fmt's source: count such statements apart). THE CARD IS WHAT COUNTS. Prove the row's statement (the work); the ties are given (YtdhakdifgcepoaaGreatDoorTie.lean); close each card by the builder's one call (the guide's Derived/Test/ToyasCard.lean, 'card_holds'). Laid BY PROGRAM, IN A SANDBOX (cutbox-door.mjs). By AI agents, Wed Nov 11 2026. No macro, syntax, notation, axiom, sorry.
-/
import Derived.Test.YtdhakdifgcepoaaGreatDoorRows
import GoSem.ClaimSeven
namespace Go.Proofs.YtdhakdifgcepoaaGreatDoor
namespace Rows

/-- THE TIED CARD OF 'collimatortop.TopPoints'. -/
def topPointsCard : Claim7 := { stood := { row := topPointsRow, standIns := [], harness := (true, "77d834d28bba8e5a24ff33f55045148f13441ab3d678089aca9e5baf4a4b23bb"), looks := true }, kinds := [], alts := [], goes := true, laidByText := true, laidKinds := [.sentinel, .sentinel, .sentinel, .sentinel, .sentinel, .data, .handle], laidTests := true, laidLooks := .later }
def TopPointsCardSaid : Prop := Claim7.holds Tryz.pinned (.plain (OpenSpec.ofChange topPointsSpec)) topPointsCard

/-- THE TIED CARD OF 'collimatortop.WholeLetters'. -/
def wholeLettersCard : Claim7 := { stood := { row := wholeLettersRow, standIns := [], harness := (true, "77d834d28bba8e5a24ff33f55045148f13441ab3d678089aca9e5baf4a4b23bb"), looks := true }, kinds := [], alts := [], goes := true, laidByText := true, laidKinds := [.sentinel, .sentinel, .sentinel, .sentinel, .sentinel, .data, .handle], laidTests := true, laidLooks := .later }
def WholeLettersCardSaid : Prop := Claim7.holds Tryz.pinned (.plain (OpenSpec.ofChange wholeLettersSpec)) wholeLettersCard

/-- THE TIED CARD OF 'collimatortop.WholeAlternated'. -/
def wholeAlternatedCard : Claim7 := { stood := { row := wholeAlternatedRow, standIns := [], harness := (true, "77d834d28bba8e5a24ff33f55045148f13441ab3d678089aca9e5baf4a4b23bb"), looks := true }, kinds := [], alts := [], goes := true, laidByText := true, laidKinds := [.sentinel, .sentinel, .sentinel, .sentinel, .sentinel, .data, .handle], laidTests := true, laidLooks := .later }
def WholeAlternatedCardSaid : Prop := Claim7.holds Tryz.pinned (.plain (OpenSpec.ofChange wholeAlternatedSpec)) wholeAlternatedCard

/-- THE TIED CARD OF 'collimatortop.WholeJoined'. -/
def wholeJoinedCard : Claim7 := { stood := { row := wholeJoinedRow, standIns := [], harness := (true, "77d834d28bba8e5a24ff33f55045148f13441ab3d678089aca9e5baf4a4b23bb"), looks := true }, kinds := [], alts := [], goes := true, laidByText := true, laidKinds := [.sentinel, .sentinel, .sentinel, .sentinel, .sentinel, .data, .handle], laidTests := true, laidLooks := .later }
def WholeJoinedCardSaid : Prop := Claim7.holds Tryz.pinned (.plain (OpenSpec.ofChange wholeJoinedSpec)) wholeJoinedCard

/-- THE TIED CARD OF 'collimatortop.TopBytes'. -/
def topBytesCard : Claim7 := { stood := { row := topBytesRow, standIns := [], harness := (true, "77d834d28bba8e5a24ff33f55045148f13441ab3d678089aca9e5baf4a4b23bb"), looks := true }, kinds := [], alts := [], goes := true, laidByText := true, laidKinds := [.sentinel, .sentinel, .sentinel, .sentinel, .sentinel, .data, .handle], laidTests := true, laidLooks := .later }
def TopBytesCardSaid : Prop := Claim7.holds Tryz.pinned (.plain (OpenSpec.ofChange topBytesSpec)) topBytesCard

/-- THE TIED CARD OF 'collimatortop.TopPacks'. -/
def topPacksCard : Claim7 := { stood := { row := topPacksRow, standIns := [], harness := (true, "77d834d28bba8e5a24ff33f55045148f13441ab3d678089aca9e5baf4a4b23bb"), looks := true }, kinds := [], alts := [], goes := true, laidByText := true, laidKinds := [.sentinel, .sentinel, .sentinel, .sentinel, .sentinel, .data, .handle], laidTests := true, laidLooks := .later }
def TopPacksCardSaid : Prop := Claim7.holds Tryz.pinned (.plain (OpenSpec.ofChange topPacksSpec)) topPacksCard

/-- THE TIED CARD OF 'collimatortop.TopAnswers'. -/
def topAnswersCard : Claim7 := { stood := { row := topAnswersRow, standIns := [], harness := (true, "77d834d28bba8e5a24ff33f55045148f13441ab3d678089aca9e5baf4a4b23bb"), looks := true }, kinds := [], alts := [], goes := true, laidByText := true, laidKinds := [.sentinel, .sentinel, .sentinel, .sentinel, .sentinel, .data, .handle], laidTests := true, laidLooks := .later }
def TopAnswersCardSaid : Prop := Claim7.holds Tryz.pinned (.plain (OpenSpec.ofChange topAnswersSpec)) topAnswersCard

/-- THE TIED CARD OF 'collimatortop.WholeWritten'. -/
def wholeWrittenCard : Claim7 := { stood := { row := wholeWrittenRow, standIns := [], harness := (true, "77d834d28bba8e5a24ff33f55045148f13441ab3d678089aca9e5baf4a4b23bb"), looks := true }, kinds := [], alts := [], goes := true, laidByText := true, laidKinds := [.sentinel, .sentinel, .sentinel, .sentinel, .sentinel, .data, .handle], laidTests := true, laidLooks := .later }
def WholeWrittenCardSaid : Prop := Claim7.holds Tryz.pinned (.plain (OpenSpec.ofChange wholeWrittenSpec)) wholeWrittenCard

/-- THE TIED CARD OF 'collimatortop.WholeHeads'. -/
def wholeHeadsCard : Claim7 := { stood := { row := wholeHeadsRow, standIns := [], harness := (true, "77d834d28bba8e5a24ff33f55045148f13441ab3d678089aca9e5baf4a4b23bb"), looks := true }, kinds := [], alts := [], goes := true, laidByText := true, laidKinds := [.sentinel, .sentinel, .sentinel, .sentinel, .sentinel, .data, .handle], laidTests := true, laidLooks := .later }
def WholeHeadsCardSaid : Prop := Claim7.holds Tryz.pinned (.plain (OpenSpec.ofChange wholeHeadsSpec)) wholeHeadsCard

/-- THE SECOND FORM's CARD OF 'collimatortop.TopPoints'. -/
def topPointsUptoCard : Claim7 := { stood := { row := topPointsUptoRow, standIns := [], harness := (true, "77d834d28bba8e5a24ff33f55045148f13441ab3d678089aca9e5baf4a4b23bb"), looks := true }, kinds := [], alts := [], goes := true, laidByText := true, laidKinds := [.sentinel, .sentinel, .sentinel, .sentinel, .sentinel, .data, .handle], laidTests := true, laidLooks := .later }
def TopPointsUptoCardSaid : Prop := Claim7.holds Tryz.pinned (.plain (OpenSpec.upto topPointsSpec)) topPointsUptoCard

/-- THE SECOND FORM's CARD OF 'collimatortop.WholeLetters'. -/
def wholeLettersUptoCard : Claim7 := { stood := { row := wholeLettersUptoRow, standIns := [], harness := (true, "77d834d28bba8e5a24ff33f55045148f13441ab3d678089aca9e5baf4a4b23bb"), looks := true }, kinds := [], alts := [], goes := true, laidByText := true, laidKinds := [.sentinel, .sentinel, .sentinel, .sentinel, .sentinel, .data, .handle], laidTests := true, laidLooks := .later }
def WholeLettersUptoCardSaid : Prop := Claim7.holds Tryz.pinned (.plain (OpenSpec.upto wholeLettersSpec)) wholeLettersUptoCard

/-- THE SECOND FORM's CARD OF 'collimatortop.WholeAlternated'. -/
def wholeAlternatedUptoCard : Claim7 := { stood := { row := wholeAlternatedUptoRow, standIns := [], harness := (true, "77d834d28bba8e5a24ff33f55045148f13441ab3d678089aca9e5baf4a4b23bb"), looks := true }, kinds := [], alts := [], goes := true, laidByText := true, laidKinds := [.sentinel, .sentinel, .sentinel, .sentinel, .sentinel, .data, .handle], laidTests := true, laidLooks := .later }
def WholeAlternatedUptoCardSaid : Prop := Claim7.holds Tryz.pinned (.plain (OpenSpec.upto wholeAlternatedSpec)) wholeAlternatedUptoCard

/-- THE SECOND FORM's CARD OF 'collimatortop.WholeJoined'. -/
def wholeJoinedUptoCard : Claim7 := { stood := { row := wholeJoinedUptoRow, standIns := [], harness := (true, "77d834d28bba8e5a24ff33f55045148f13441ab3d678089aca9e5baf4a4b23bb"), looks := true }, kinds := [], alts := [], goes := true, laidByText := true, laidKinds := [.sentinel, .sentinel, .sentinel, .sentinel, .sentinel, .data, .handle], laidTests := true, laidLooks := .later }
def WholeJoinedUptoCardSaid : Prop := Claim7.holds Tryz.pinned (.plain (OpenSpec.upto wholeJoinedSpec)) wholeJoinedUptoCard

/-- THE SECOND FORM's CARD OF 'collimatortop.TopBytes'. -/
def topBytesUptoCard : Claim7 := { stood := { row := topBytesUptoRow, standIns := [], harness := (true, "77d834d28bba8e5a24ff33f55045148f13441ab3d678089aca9e5baf4a4b23bb"), looks := true }, kinds := [], alts := [], goes := true, laidByText := true, laidKinds := [.sentinel, .sentinel, .sentinel, .sentinel, .sentinel, .data, .handle], laidTests := true, laidLooks := .later }
def TopBytesUptoCardSaid : Prop := Claim7.holds Tryz.pinned (.plain (OpenSpec.upto topBytesSpec)) topBytesUptoCard

/-- THE SECOND FORM's CARD OF 'collimatortop.TopPacks'. -/
def topPacksUptoCard : Claim7 := { stood := { row := topPacksUptoRow, standIns := [], harness := (true, "77d834d28bba8e5a24ff33f55045148f13441ab3d678089aca9e5baf4a4b23bb"), looks := true }, kinds := [], alts := [], goes := true, laidByText := true, laidKinds := [.sentinel, .sentinel, .sentinel, .sentinel, .sentinel, .data, .handle], laidTests := true, laidLooks := .later }
def TopPacksUptoCardSaid : Prop := Claim7.holds Tryz.pinned (.plain (OpenSpec.upto topPacksSpec)) topPacksUptoCard

/-- THE SECOND FORM's CARD OF 'collimatortop.TopAnswers'. -/
def topAnswersUptoCard : Claim7 := { stood := { row := topAnswersUptoRow, standIns := [], harness := (true, "77d834d28bba8e5a24ff33f55045148f13441ab3d678089aca9e5baf4a4b23bb"), looks := true }, kinds := [], alts := [], goes := true, laidByText := true, laidKinds := [.sentinel, .sentinel, .sentinel, .sentinel, .sentinel, .data, .handle], laidTests := true, laidLooks := .later }
def TopAnswersUptoCardSaid : Prop := Claim7.holds Tryz.pinned (.plain (OpenSpec.upto topAnswersSpec)) topAnswersUptoCard

/-- THE SECOND FORM's CARD OF 'collimatortop.WholeWritten'. -/
def wholeWrittenUptoCard : Claim7 := { stood := { row := wholeWrittenUptoRow, standIns := [], harness := (true, "77d834d28bba8e5a24ff33f55045148f13441ab3d678089aca9e5baf4a4b23bb"), looks := true }, kinds := [], alts := [], goes := true, laidByText := true, laidKinds := [.sentinel, .sentinel, .sentinel, .sentinel, .sentinel, .data, .handle], laidTests := true, laidLooks := .later }
def WholeWrittenUptoCardSaid : Prop := Claim7.holds Tryz.pinned (.plain (OpenSpec.upto wholeWrittenSpec)) wholeWrittenUptoCard

/-- THE SECOND FORM's CARD OF 'collimatortop.WholeHeads'. -/
def wholeHeadsUptoCard : Claim7 := { stood := { row := wholeHeadsUptoRow, standIns := [], harness := (true, "77d834d28bba8e5a24ff33f55045148f13441ab3d678089aca9e5baf4a4b23bb"), looks := true }, kinds := [], alts := [], goes := true, laidByText := true, laidKinds := [.sentinel, .sentinel, .sentinel, .sentinel, .sentinel, .data, .handle], laidTests := true, laidLooks := .later }
def WholeHeadsUptoCardSaid : Prop := Claim7.holds Tryz.pinned (.plain (OpenSpec.upto wholeHeadsSpec)) wholeHeadsUptoCard
end Rows
end Go.Proofs.YtdhakdifgcepoaaGreatDoor
