/-
  DERIVED. GIVEN WITH THE SEED: THE CARDS: each row of YtbaajjihhdmdpaaGreatDoorRows.lean that lists a variable, with what it lists TIED to the program's text (the seventh form; the later family's looks); each row that meets fmt, with fmt's text TOLD by the authors' own Lean function (tested against real Go, not proved from fmt's source: count such statements apart). THE CARD IS WHAT COUNTS. Prove the row's statement (the work); the ties are given (YtbaajjihhdmdpaaGreatDoorTie.lean); close each card by the builder's one call (the guide's Derived/Test/ToyasCard.lean, 'card_holds'). Laid BY PROGRAM, IN A SANDBOX (cutbox-door.mjs). By AI agents, Wed Nov 11 2026. No macro, syntax, notation, axiom, sorry.
-/
import Derived.Test.YtbaajjihhdmdpaaGreatDoorRows
import GoSem.ClaimSeven
namespace Go.Proofs.YtbaajjihhdmdpaaGreatDoor
namespace Rows

/-- THE TIED CARD OF 'hopmeshlaw41.AdmitRoom'. -/
def admitRoomCard : Claim7 := { stood := { row := admitRoomRow, standIns := [], harness := (true, "e5c9fa9c9116c076862ad1241a9e7617a0996e04e598907254b234b1a671a293"), looks := false }, kinds := [], alts := [], laidByText := true, laidKinds := [.data, .data, .data], laidTests := true, laidLooks := .later }
def AdmitRoomCardSaid : Prop := Claim7.holds Tryz.pinned (.plain (OpenSpec.ofChange admitRoomSpec)) admitRoomCard

/-- THE TIED CARD OF 'hopmeshlaw41.AdmitAdds'. -/
def admitAddsCard : Claim7 := { stood := { row := admitAddsRow, standIns := [], harness := (true, "e5c9fa9c9116c076862ad1241a9e7617a0996e04e598907254b234b1a671a293"), looks := false }, kinds := [], alts := [], laidByText := true, laidKinds := [.data, .data, .data], laidTests := true, laidLooks := .later }
def AdmitAddsCardSaid : Prop := Claim7.holds Tryz.pinned (.plain (OpenSpec.ofChange admitAddsSpec)) admitAddsCard

/-- THE TIED CARD OF 'hopmeshlaw41.AdmitServes'. -/
def admitServesCard : Claim7 := { stood := { row := admitServesRow, standIns := [], harness := (true, "e5c9fa9c9116c076862ad1241a9e7617a0996e04e598907254b234b1a671a293"), looks := false }, kinds := [], alts := [], laidByText := true, laidKinds := [.data, .data, .data], laidTests := true, laidLooks := .later }
def AdmitServesCardSaid : Prop := Claim7.holds Tryz.pinned (.plain (OpenSpec.ofChange admitServesSpec)) admitServesCard

/-- THE TIED CARD OF 'hopmeshlaw41.AdmitTrims'. -/
def admitTrimsCard : Claim7 := { stood := { row := admitTrimsRow, standIns := [], harness := (true, "e5c9fa9c9116c076862ad1241a9e7617a0996e04e598907254b234b1a671a293"), looks := false }, kinds := [], alts := [], laidByText := true, laidKinds := [.data, .data, .data], laidTests := true, laidLooks := .later }
def AdmitTrimsCardSaid : Prop := Claim7.holds Tryz.pinned (.plain (OpenSpec.ofChange admitTrimsSpec)) admitTrimsCard

/-- THE TIED CARD OF 'hopmeshlaw41.AdmitAll'. -/
def admitAllCard : Claim7 := { stood := { row := admitAllRow, standIns := [], harness := (true, "e5c9fa9c9116c076862ad1241a9e7617a0996e04e598907254b234b1a671a293"), looks := false }, kinds := [], alts := [], laidByText := true, laidKinds := [.data, .data, .data], laidTests := true, laidLooks := .later }
def AdmitAllCardSaid : Prop := Claim7.holds Tryz.pinned (.plain (OpenSpec.ofChange admitAllSpec)) admitAllCard

/-- THE TIED CARD OF 'hopmeshlaw41.AdmitExact'. -/
def admitExactCard : Claim7 := { stood := { row := admitExactRow, standIns := [], harness := (true, "e5c9fa9c9116c076862ad1241a9e7617a0996e04e598907254b234b1a671a293"), looks := false }, kinds := [], alts := [], laidByText := true, laidKinds := [.data, .data, .data], laidTests := true, laidLooks := .later }
def AdmitExactCardSaid : Prop := Claim7.holds Tryz.pinned (.plain (OpenSpec.ofChange admitExactSpec)) admitExactCard

/-- THE TIED CARD OF 'hopmeshlaw41.AdmitFills'. -/
def admitFillsCard : Claim7 := { stood := { row := admitFillsRow, standIns := [], harness := (true, "e5c9fa9c9116c076862ad1241a9e7617a0996e04e598907254b234b1a671a293"), looks := false }, kinds := [], alts := [], laidByText := true, laidKinds := [.data, .data, .data], laidTests := true, laidLooks := .later }
def AdmitFillsCardSaid : Prop := Claim7.holds Tryz.pinned (.plain (OpenSpec.ofChange admitFillsSpec)) admitFillsCard

/-- THE TIED CARD OF 'hopmeshlaw39.LoadReasons'. -/
def loadReasonsCard : Claim7 := { stood := { row := loadReasonsRow, standIns := [], harness := (true, "e5c9fa9c9116c076862ad1241a9e7617a0996e04e598907254b234b1a671a293"), looks := false }, kinds := [], alts := [], laidByText := true, laidKinds := [.data, .data, .data], laidTests := true, laidLooks := .later }
def LoadReasonsCardSaid : Prop := Claim7.holds Tryz.pinned (.plain (OpenSpec.ofChange loadReasonsSpec)) loadReasonsCard

/-- THE TIED CARD OF 'hopmeshlaw39.LoadVerifies'. -/
def loadVerifiesCard : Claim7 := { stood := { row := loadVerifiesRow, standIns := [], harness := (true, "e5c9fa9c9116c076862ad1241a9e7617a0996e04e598907254b234b1a671a293"), looks := false }, kinds := [], alts := [], laidByText := true, laidKinds := [.data, .data, .data], laidTests := true, laidLooks := .later }
def LoadVerifiesCardSaid : Prop := Claim7.holds Tryz.pinned (.plain (OpenSpec.ofChange loadVerifiesSpec)) loadVerifiesCard

/-- THE TIED CARD OF 'hopmeshlaw39.LoadServed'. -/
def loadServedCard : Claim7 := { stood := { row := loadServedRow, standIns := [], harness := (true, "e5c9fa9c9116c076862ad1241a9e7617a0996e04e598907254b234b1a671a293"), looks := false }, kinds := [], alts := [], laidByText := true, laidKinds := [.data, .data, .data], laidTests := true, laidLooks := .later }
def LoadServedCardSaid : Prop := Claim7.holds Tryz.pinned (.plain (OpenSpec.ofChange loadServedSpec)) loadServedCard

/-- THE TIED CARD OF 'hopmeshlaw39.LoadMore'. -/
def loadMoreCard : Claim7 := { stood := { row := loadMoreRow, standIns := [], harness := (true, "e5c9fa9c9116c076862ad1241a9e7617a0996e04e598907254b234b1a671a293"), looks := false }, kinds := [], alts := [], laidByText := true, laidKinds := [.data, .data, .data], laidTests := true, laidLooks := .later }
def LoadMoreCardSaid : Prop := Claim7.holds Tryz.pinned (.plain (OpenSpec.ofChange loadMoreSpec)) loadMoreCard

/-- THE TIED CARD OF 'hopmeshlaw39.LoadCounts'. -/
def loadCountsCard : Claim7 := { stood := { row := loadCountsRow, standIns := [], harness := (true, "e5c9fa9c9116c076862ad1241a9e7617a0996e04e598907254b234b1a671a293"), looks := false }, kinds := [], alts := [], laidByText := true, laidKinds := [.data, .data, .data], laidTests := true, laidLooks := .later }
def LoadCountsCardSaid : Prop := Claim7.holds Tryz.pinned (.plain (OpenSpec.ofChange loadCountsSpec)) loadCountsCard

/-- THE TIED CARD OF 'hopmeshlaw39.LoadSums'. -/
def loadSumsCard : Claim7 := { stood := { row := loadSumsRow, standIns := [], harness := (true, "e5c9fa9c9116c076862ad1241a9e7617a0996e04e598907254b234b1a671a293"), looks := false }, kinds := [], alts := [], laidByText := true, laidKinds := [.data, .data, .data], laidTests := true, laidLooks := .later }
def LoadSumsCardSaid : Prop := Claim7.holds Tryz.pinned (.plain (OpenSpec.ofChange loadSumsSpec)) loadSumsCard

/-- THE TIED CARD OF 'hopmeshlaw39.LoadLeast'. -/
def loadLeastCard : Claim7 := { stood := { row := loadLeastRow, standIns := [], harness := (true, "e5c9fa9c9116c076862ad1241a9e7617a0996e04e598907254b234b1a671a293"), looks := false }, kinds := [], alts := [], laidByText := true, laidKinds := [.data, .data, .data], laidTests := true, laidLooks := .later }
def LoadLeastCardSaid : Prop := Claim7.holds Tryz.pinned (.plain (OpenSpec.ofChange loadLeastSpec)) loadLeastCard

/-- THE SECOND FORM's CARD OF 'hopmeshlaw41.AdmitRoom'. -/
def admitRoomUptoCard : Claim7 := { stood := { row := admitRoomUptoRow, standIns := [], harness := (true, "e5c9fa9c9116c076862ad1241a9e7617a0996e04e598907254b234b1a671a293"), looks := false }, kinds := [], alts := [], laidByText := true, laidKinds := [.data, .data, .data], laidTests := true, laidLooks := .later }
def AdmitRoomUptoCardSaid : Prop := Claim7.holds Tryz.pinned (.plain (OpenSpec.upto admitRoomSpec)) admitRoomUptoCard

/-- THE SECOND FORM's CARD OF 'hopmeshlaw41.AdmitAdds'. -/
def admitAddsUptoCard : Claim7 := { stood := { row := admitAddsUptoRow, standIns := [], harness := (true, "e5c9fa9c9116c076862ad1241a9e7617a0996e04e598907254b234b1a671a293"), looks := false }, kinds := [], alts := [], laidByText := true, laidKinds := [.data, .data, .data], laidTests := true, laidLooks := .later }
def AdmitAddsUptoCardSaid : Prop := Claim7.holds Tryz.pinned (.plain (OpenSpec.upto admitAddsSpec)) admitAddsUptoCard

/-- THE SECOND FORM's CARD OF 'hopmeshlaw41.AdmitServes'. -/
def admitServesUptoCard : Claim7 := { stood := { row := admitServesUptoRow, standIns := [], harness := (true, "e5c9fa9c9116c076862ad1241a9e7617a0996e04e598907254b234b1a671a293"), looks := false }, kinds := [], alts := [], laidByText := true, laidKinds := [.data, .data, .data], laidTests := true, laidLooks := .later }
def AdmitServesUptoCardSaid : Prop := Claim7.holds Tryz.pinned (.plain (OpenSpec.upto admitServesSpec)) admitServesUptoCard

/-- THE SECOND FORM's CARD OF 'hopmeshlaw41.AdmitTrims'. -/
def admitTrimsUptoCard : Claim7 := { stood := { row := admitTrimsUptoRow, standIns := [], harness := (true, "e5c9fa9c9116c076862ad1241a9e7617a0996e04e598907254b234b1a671a293"), looks := false }, kinds := [], alts := [], laidByText := true, laidKinds := [.data, .data, .data], laidTests := true, laidLooks := .later }
def AdmitTrimsUptoCardSaid : Prop := Claim7.holds Tryz.pinned (.plain (OpenSpec.upto admitTrimsSpec)) admitTrimsUptoCard

/-- THE SECOND FORM's CARD OF 'hopmeshlaw41.AdmitAll'. -/
def admitAllUptoCard : Claim7 := { stood := { row := admitAllUptoRow, standIns := [], harness := (true, "e5c9fa9c9116c076862ad1241a9e7617a0996e04e598907254b234b1a671a293"), looks := false }, kinds := [], alts := [], laidByText := true, laidKinds := [.data, .data, .data], laidTests := true, laidLooks := .later }
def AdmitAllUptoCardSaid : Prop := Claim7.holds Tryz.pinned (.plain (OpenSpec.upto admitAllSpec)) admitAllUptoCard

/-- THE SECOND FORM's CARD OF 'hopmeshlaw41.AdmitExact'. -/
def admitExactUptoCard : Claim7 := { stood := { row := admitExactUptoRow, standIns := [], harness := (true, "e5c9fa9c9116c076862ad1241a9e7617a0996e04e598907254b234b1a671a293"), looks := false }, kinds := [], alts := [], laidByText := true, laidKinds := [.data, .data, .data], laidTests := true, laidLooks := .later }
def AdmitExactUptoCardSaid : Prop := Claim7.holds Tryz.pinned (.plain (OpenSpec.upto admitExactSpec)) admitExactUptoCard

/-- THE SECOND FORM's CARD OF 'hopmeshlaw41.AdmitFills'. -/
def admitFillsUptoCard : Claim7 := { stood := { row := admitFillsUptoRow, standIns := [], harness := (true, "e5c9fa9c9116c076862ad1241a9e7617a0996e04e598907254b234b1a671a293"), looks := false }, kinds := [], alts := [], laidByText := true, laidKinds := [.data, .data, .data], laidTests := true, laidLooks := .later }
def AdmitFillsUptoCardSaid : Prop := Claim7.holds Tryz.pinned (.plain (OpenSpec.upto admitFillsSpec)) admitFillsUptoCard

/-- THE SECOND FORM's CARD OF 'hopmeshlaw39.LoadReasons'. -/
def loadReasonsUptoCard : Claim7 := { stood := { row := loadReasonsUptoRow, standIns := [], harness := (true, "e5c9fa9c9116c076862ad1241a9e7617a0996e04e598907254b234b1a671a293"), looks := false }, kinds := [], alts := [], laidByText := true, laidKinds := [.data, .data, .data], laidTests := true, laidLooks := .later }
def LoadReasonsUptoCardSaid : Prop := Claim7.holds Tryz.pinned (.plain (OpenSpec.upto loadReasonsSpec)) loadReasonsUptoCard

/-- THE SECOND FORM's CARD OF 'hopmeshlaw39.LoadVerifies'. -/
def loadVerifiesUptoCard : Claim7 := { stood := { row := loadVerifiesUptoRow, standIns := [], harness := (true, "e5c9fa9c9116c076862ad1241a9e7617a0996e04e598907254b234b1a671a293"), looks := false }, kinds := [], alts := [], laidByText := true, laidKinds := [.data, .data, .data], laidTests := true, laidLooks := .later }
def LoadVerifiesUptoCardSaid : Prop := Claim7.holds Tryz.pinned (.plain (OpenSpec.upto loadVerifiesSpec)) loadVerifiesUptoCard

/-- THE SECOND FORM's CARD OF 'hopmeshlaw39.LoadServed'. -/
def loadServedUptoCard : Claim7 := { stood := { row := loadServedUptoRow, standIns := [], harness := (true, "e5c9fa9c9116c076862ad1241a9e7617a0996e04e598907254b234b1a671a293"), looks := false }, kinds := [], alts := [], laidByText := true, laidKinds := [.data, .data, .data], laidTests := true, laidLooks := .later }
def LoadServedUptoCardSaid : Prop := Claim7.holds Tryz.pinned (.plain (OpenSpec.upto loadServedSpec)) loadServedUptoCard

/-- THE SECOND FORM's CARD OF 'hopmeshlaw39.LoadMore'. -/
def loadMoreUptoCard : Claim7 := { stood := { row := loadMoreUptoRow, standIns := [], harness := (true, "e5c9fa9c9116c076862ad1241a9e7617a0996e04e598907254b234b1a671a293"), looks := false }, kinds := [], alts := [], laidByText := true, laidKinds := [.data, .data, .data], laidTests := true, laidLooks := .later }
def LoadMoreUptoCardSaid : Prop := Claim7.holds Tryz.pinned (.plain (OpenSpec.upto loadMoreSpec)) loadMoreUptoCard

/-- THE SECOND FORM's CARD OF 'hopmeshlaw39.LoadCounts'. -/
def loadCountsUptoCard : Claim7 := { stood := { row := loadCountsUptoRow, standIns := [], harness := (true, "e5c9fa9c9116c076862ad1241a9e7617a0996e04e598907254b234b1a671a293"), looks := false }, kinds := [], alts := [], laidByText := true, laidKinds := [.data, .data, .data], laidTests := true, laidLooks := .later }
def LoadCountsUptoCardSaid : Prop := Claim7.holds Tryz.pinned (.plain (OpenSpec.upto loadCountsSpec)) loadCountsUptoCard

/-- THE SECOND FORM's CARD OF 'hopmeshlaw39.LoadSums'. -/
def loadSumsUptoCard : Claim7 := { stood := { row := loadSumsUptoRow, standIns := [], harness := (true, "e5c9fa9c9116c076862ad1241a9e7617a0996e04e598907254b234b1a671a293"), looks := false }, kinds := [], alts := [], laidByText := true, laidKinds := [.data, .data, .data], laidTests := true, laidLooks := .later }
def LoadSumsUptoCardSaid : Prop := Claim7.holds Tryz.pinned (.plain (OpenSpec.upto loadSumsSpec)) loadSumsUptoCard

/-- THE SECOND FORM's CARD OF 'hopmeshlaw39.LoadLeast'. -/
def loadLeastUptoCard : Claim7 := { stood := { row := loadLeastUptoRow, standIns := [], harness := (true, "e5c9fa9c9116c076862ad1241a9e7617a0996e04e598907254b234b1a671a293"), looks := false }, kinds := [], alts := [], laidByText := true, laidKinds := [.data, .data, .data], laidTests := true, laidLooks := .later }
def LoadLeastUptoCardSaid : Prop := Claim7.holds Tryz.pinned (.plain (OpenSpec.upto loadLeastSpec)) loadLeastUptoCard
end Rows
end Go.Proofs.YtbaajjihhdmdpaaGreatDoor
