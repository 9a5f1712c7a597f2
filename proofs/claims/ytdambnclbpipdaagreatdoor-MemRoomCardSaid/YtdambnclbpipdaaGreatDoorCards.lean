/-
  DERIVED. GIVEN WITH THE SEED: THE CARDS: each row of YtdambnclbpipdaaGreatDoorRows.lean that lists a variable, with what it lists TIED to the program's text (the seventh form; the later family's looks); each row that meets fmt, with fmt's text TOLD by the authors' own Lean function (tested against real Go, not proved from fmt's source: count such statements apart). THE CARD IS WHAT COUNTS. Prove the row's statement (the work); the ties are given (YtdambnclbpipdaaGreatDoorTie.lean); close each card by the builder's one call (the guide's Derived/Test/ToyasCard.lean, 'card_holds'). Laid BY PROGRAM, IN A SANDBOX (cutbox-door.mjs). By AI agents, Wed Nov 11 2026. No macro, syntax, notation, axiom, sorry.
-/
import Derived.Test.YtdambnclbpipdaaGreatDoorRows
import GoSem.ClaimSeven
namespace Go.Proofs.YtdambnclbpipdaaGreatDoor
namespace Rows

/-- THE TIED CARD OF 'tremalaw16.MemMinds'. -/
def memMindsCard : Claim7 := { stood := { row := memMindsRow, standIns := [], harness := (true, "79fd00f625278ef6f8ce176163703940014fb54cad070bf8face8d6ffa1bccf6"), looks := true }, kinds := [], alts := [], laidByText := true, laidKinds := [.data, .data, .data], laidTests := true, laidLooks := .later }
def MemMindsCardSaid : Prop := Claim7.holds Tryz.pinned (.plain (OpenSpec.ofChange memMindsSpec)) memMindsCard

/-- THE TIED CARD OF 'tremalaw16.MemRoom'. -/
def memRoomCard : Claim7 := { stood := { row := memRoomRow, standIns := [], harness := (true, "79fd00f625278ef6f8ce176163703940014fb54cad070bf8face8d6ffa1bccf6"), looks := true }, kinds := [], alts := [], laidByText := true, laidKinds := [.data, .data, .data], laidTests := true, laidLooks := .later }
def MemRoomCardSaid : Prop := Claim7.holds Tryz.pinned (.plain (OpenSpec.ofChange memRoomSpec)) memRoomCard

/-- THE TIED CARD OF 'tremalaw16.MemPlays'. -/
def memPlaysCard : Claim7 := { stood := { row := memPlaysRow, standIns := [], harness := (true, "79fd00f625278ef6f8ce176163703940014fb54cad070bf8face8d6ffa1bccf6"), looks := true }, kinds := [], alts := [], laidByText := true, laidKinds := [.data, .data, .data], laidTests := true, laidLooks := .later }
def MemPlaysCardSaid : Prop := Claim7.holds Tryz.pinned (.plain (OpenSpec.ofChange memPlaysSpec)) memPlaysCard

/-- THE TIED CARD OF 'tremalaw16.MemMaps'. -/
def memMapsCard : Claim7 := { stood := { row := memMapsRow, standIns := [], harness := (true, "79fd00f625278ef6f8ce176163703940014fb54cad070bf8face8d6ffa1bccf6"), looks := true }, kinds := [], alts := [], laidByText := true, laidKinds := [.data, .data, .data], laidTests := true, laidLooks := .later }
def MemMapsCardSaid : Prop := Claim7.holds Tryz.pinned (.plain (OpenSpec.ofChange memMapsSpec)) memMapsCard

/-- THE TIED CARD OF 'tremalaw16.MemKeeps'. -/
def memKeepsCard : Claim7 := { stood := { row := memKeepsRow, standIns := [], harness := (true, "79fd00f625278ef6f8ce176163703940014fb54cad070bf8face8d6ffa1bccf6"), looks := true }, kinds := [], alts := [], laidByText := true, laidKinds := [.data, .data, .data], laidTests := true, laidLooks := .later }
def MemKeepsCardSaid : Prop := Claim7.holds Tryz.pinned (.plain (OpenSpec.ofChange memKeepsSpec)) memKeepsCard

/-- THE TIED CARD OF 'tremalaw16.MemRuns'. -/
def memRunsCard : Claim7 := { stood := { row := memRunsRow, standIns := [], harness := (true, "79fd00f625278ef6f8ce176163703940014fb54cad070bf8face8d6ffa1bccf6"), looks := true }, kinds := [], alts := [], laidByText := true, laidKinds := [.data, .data, .data], laidTests := true, laidLooks := .later }
def MemRunsCardSaid : Prop := Claim7.holds Tryz.pinned (.plain (OpenSpec.ofChange memRunsSpec)) memRunsCard

/-- THE TIED CARD OF 'tremalaw16.MemWith'. -/
def memWithCard : Claim7 := { stood := { row := memWithRow, standIns := [], harness := (true, "79fd00f625278ef6f8ce176163703940014fb54cad070bf8face8d6ffa1bccf6"), looks := true }, kinds := [], alts := [], laidByText := true, laidKinds := [.data, .data, .data], laidTests := true, laidLooks := .later }
def MemWithCardSaid : Prop := Claim7.holds Tryz.pinned (.plain (OpenSpec.ofChange memWithSpec)) memWithCard

/-- THE TIED CARD OF 'tremalaw17.SnapSums'. -/
def snapSumsCard : Claim7 := { stood := { row := snapSumsRow, standIns := [], harness := (true, "79fd00f625278ef6f8ce176163703940014fb54cad070bf8face8d6ffa1bccf6"), looks := true }, kinds := [], alts := [], laidByText := true, laidKinds := [.data, .data, .data], laidTests := true, laidLooks := .later }
def SnapSumsCardSaid : Prop := Claim7.holds Tryz.pinned (.plain (OpenSpec.ofChange snapSumsSpec)) snapSumsCard

/-- THE TIED CARD OF 'tremalaw17.SnapRoads'. -/
def snapRoadsCard : Claim7 := { stood := { row := snapRoadsRow, standIns := [], harness := (true, "79fd00f625278ef6f8ce176163703940014fb54cad070bf8face8d6ffa1bccf6"), looks := true }, kinds := [], alts := [], laidByText := true, laidKinds := [.data, .data, .data], laidTests := true, laidLooks := .later }
def SnapRoadsCardSaid : Prop := Claim7.holds Tryz.pinned (.plain (OpenSpec.ofChange snapRoadsSpec)) snapRoadsCard

/-- THE TIED CARD OF 'tremalaw17.SnapLoads'. -/
def snapLoadsCard : Claim7 := { stood := { row := snapLoadsRow, standIns := [], harness := (true, "79fd00f625278ef6f8ce176163703940014fb54cad070bf8face8d6ffa1bccf6"), looks := true }, kinds := [], alts := [], laidByText := true, laidKinds := [.data, .data, .data], laidTests := true, laidLooks := .later }
def SnapLoadsCardSaid : Prop := Claim7.holds Tryz.pinned (.plain (OpenSpec.ofChange snapLoadsSpec)) snapLoadsCard

/-- THE TIED CARD OF 'tremalaw17.SnapSealed'. -/
def snapSealedCard : Claim7 := { stood := { row := snapSealedRow, standIns := [], harness := (true, "79fd00f625278ef6f8ce176163703940014fb54cad070bf8face8d6ffa1bccf6"), looks := true }, kinds := [], alts := [], laidByText := true, laidKinds := [.data, .data, .data], laidTests := true, laidLooks := .later }
def SnapSealedCardSaid : Prop := Claim7.holds Tryz.pinned (.plain (OpenSpec.ofChange snapSealedSpec)) snapSealedCard

/-- THE TIED CARD OF 'tremalaw17.SnapSaves'. -/
def snapSavesCard : Claim7 := { stood := { row := snapSavesRow, standIns := [], harness := (true, "79fd00f625278ef6f8ce176163703940014fb54cad070bf8face8d6ffa1bccf6"), looks := true }, kinds := [], alts := [], laidByText := true, laidKinds := [.data, .data, .data], laidTests := true, laidLooks := .later }
def SnapSavesCardSaid : Prop := Claim7.holds Tryz.pinned (.plain (OpenSpec.ofChange snapSavesSpec)) snapSavesCard

/-- THE SECOND FORM's CARD OF 'tremalaw16.MemMinds'. -/
def memMindsUptoCard : Claim7 := { stood := { row := memMindsUptoRow, standIns := [], harness := (true, "79fd00f625278ef6f8ce176163703940014fb54cad070bf8face8d6ffa1bccf6"), looks := true }, kinds := [], alts := [], laidByText := true, laidKinds := [.data, .data, .data], laidTests := true, laidLooks := .later }
def MemMindsUptoCardSaid : Prop := Claim7.holds Tryz.pinned (.plain (OpenSpec.upto memMindsSpec)) memMindsUptoCard

/-- THE SECOND FORM's CARD OF 'tremalaw16.MemRoom'. -/
def memRoomUptoCard : Claim7 := { stood := { row := memRoomUptoRow, standIns := [], harness := (true, "79fd00f625278ef6f8ce176163703940014fb54cad070bf8face8d6ffa1bccf6"), looks := true }, kinds := [], alts := [], laidByText := true, laidKinds := [.data, .data, .data], laidTests := true, laidLooks := .later }
def MemRoomUptoCardSaid : Prop := Claim7.holds Tryz.pinned (.plain (OpenSpec.upto memRoomSpec)) memRoomUptoCard

/-- THE SECOND FORM's CARD OF 'tremalaw16.MemPlays'. -/
def memPlaysUptoCard : Claim7 := { stood := { row := memPlaysUptoRow, standIns := [], harness := (true, "79fd00f625278ef6f8ce176163703940014fb54cad070bf8face8d6ffa1bccf6"), looks := true }, kinds := [], alts := [], laidByText := true, laidKinds := [.data, .data, .data], laidTests := true, laidLooks := .later }
def MemPlaysUptoCardSaid : Prop := Claim7.holds Tryz.pinned (.plain (OpenSpec.upto memPlaysSpec)) memPlaysUptoCard

/-- THE SECOND FORM's CARD OF 'tremalaw16.MemMaps'. -/
def memMapsUptoCard : Claim7 := { stood := { row := memMapsUptoRow, standIns := [], harness := (true, "79fd00f625278ef6f8ce176163703940014fb54cad070bf8face8d6ffa1bccf6"), looks := true }, kinds := [], alts := [], laidByText := true, laidKinds := [.data, .data, .data], laidTests := true, laidLooks := .later }
def MemMapsUptoCardSaid : Prop := Claim7.holds Tryz.pinned (.plain (OpenSpec.upto memMapsSpec)) memMapsUptoCard

/-- THE SECOND FORM's CARD OF 'tremalaw16.MemKeeps'. -/
def memKeepsUptoCard : Claim7 := { stood := { row := memKeepsUptoRow, standIns := [], harness := (true, "79fd00f625278ef6f8ce176163703940014fb54cad070bf8face8d6ffa1bccf6"), looks := true }, kinds := [], alts := [], laidByText := true, laidKinds := [.data, .data, .data], laidTests := true, laidLooks := .later }
def MemKeepsUptoCardSaid : Prop := Claim7.holds Tryz.pinned (.plain (OpenSpec.upto memKeepsSpec)) memKeepsUptoCard

/-- THE SECOND FORM's CARD OF 'tremalaw16.MemRuns'. -/
def memRunsUptoCard : Claim7 := { stood := { row := memRunsUptoRow, standIns := [], harness := (true, "79fd00f625278ef6f8ce176163703940014fb54cad070bf8face8d6ffa1bccf6"), looks := true }, kinds := [], alts := [], laidByText := true, laidKinds := [.data, .data, .data], laidTests := true, laidLooks := .later }
def MemRunsUptoCardSaid : Prop := Claim7.holds Tryz.pinned (.plain (OpenSpec.upto memRunsSpec)) memRunsUptoCard

/-- THE SECOND FORM's CARD OF 'tremalaw16.MemWith'. -/
def memWithUptoCard : Claim7 := { stood := { row := memWithUptoRow, standIns := [], harness := (true, "79fd00f625278ef6f8ce176163703940014fb54cad070bf8face8d6ffa1bccf6"), looks := true }, kinds := [], alts := [], laidByText := true, laidKinds := [.data, .data, .data], laidTests := true, laidLooks := .later }
def MemWithUptoCardSaid : Prop := Claim7.holds Tryz.pinned (.plain (OpenSpec.upto memWithSpec)) memWithUptoCard

/-- THE SECOND FORM's CARD OF 'tremalaw17.SnapSums'. -/
def snapSumsUptoCard : Claim7 := { stood := { row := snapSumsUptoRow, standIns := [], harness := (true, "79fd00f625278ef6f8ce176163703940014fb54cad070bf8face8d6ffa1bccf6"), looks := true }, kinds := [], alts := [], laidByText := true, laidKinds := [.data, .data, .data], laidTests := true, laidLooks := .later }
def SnapSumsUptoCardSaid : Prop := Claim7.holds Tryz.pinned (.plain (OpenSpec.upto snapSumsSpec)) snapSumsUptoCard

/-- THE SECOND FORM's CARD OF 'tremalaw17.SnapRoads'. -/
def snapRoadsUptoCard : Claim7 := { stood := { row := snapRoadsUptoRow, standIns := [], harness := (true, "79fd00f625278ef6f8ce176163703940014fb54cad070bf8face8d6ffa1bccf6"), looks := true }, kinds := [], alts := [], laidByText := true, laidKinds := [.data, .data, .data], laidTests := true, laidLooks := .later }
def SnapRoadsUptoCardSaid : Prop := Claim7.holds Tryz.pinned (.plain (OpenSpec.upto snapRoadsSpec)) snapRoadsUptoCard

/-- THE SECOND FORM's CARD OF 'tremalaw17.SnapLoads'. -/
def snapLoadsUptoCard : Claim7 := { stood := { row := snapLoadsUptoRow, standIns := [], harness := (true, "79fd00f625278ef6f8ce176163703940014fb54cad070bf8face8d6ffa1bccf6"), looks := true }, kinds := [], alts := [], laidByText := true, laidKinds := [.data, .data, .data], laidTests := true, laidLooks := .later }
def SnapLoadsUptoCardSaid : Prop := Claim7.holds Tryz.pinned (.plain (OpenSpec.upto snapLoadsSpec)) snapLoadsUptoCard

/-- THE SECOND FORM's CARD OF 'tremalaw17.SnapSealed'. -/
def snapSealedUptoCard : Claim7 := { stood := { row := snapSealedUptoRow, standIns := [], harness := (true, "79fd00f625278ef6f8ce176163703940014fb54cad070bf8face8d6ffa1bccf6"), looks := true }, kinds := [], alts := [], laidByText := true, laidKinds := [.data, .data, .data], laidTests := true, laidLooks := .later }
def SnapSealedUptoCardSaid : Prop := Claim7.holds Tryz.pinned (.plain (OpenSpec.upto snapSealedSpec)) snapSealedUptoCard

/-- THE SECOND FORM's CARD OF 'tremalaw17.SnapSaves'. -/
def snapSavesUptoCard : Claim7 := { stood := { row := snapSavesUptoRow, standIns := [], harness := (true, "79fd00f625278ef6f8ce176163703940014fb54cad070bf8face8d6ffa1bccf6"), looks := true }, kinds := [], alts := [], laidByText := true, laidKinds := [.data, .data, .data], laidTests := true, laidLooks := .later }
def SnapSavesUptoCardSaid : Prop := Claim7.holds Tryz.pinned (.plain (OpenSpec.upto snapSavesSpec)) snapSavesUptoCard
end Rows
end Go.Proofs.YtdambnclbpipdaaGreatDoor
