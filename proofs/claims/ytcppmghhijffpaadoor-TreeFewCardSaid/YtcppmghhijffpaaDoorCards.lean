/-
  DERIVED. GIVEN WITH THE SEED: THE CARDS: each row of YtcppmghhijffpaaDoorRows.lean that lists a variable, with what it lists TIED to the program's text (the seventh form; the later family's looks); each row that meets fmt, with fmt's text TOLD by the authors' own Lean function (tested against real Go, not proved from fmt's source: count such statements apart). THE CARD IS WHAT COUNTS. Prove the row's statement (the work); the ties are given (YtcppmghhijffpaaDoorTie.lean); close each card by the builder's one call (the guide's Derived/Test/ToyasCard.lean, 'card_holds'). Laid BY PROGRAM, IN A SANDBOX (cutbox-door.mjs). By AI agents, Wed Nov 11 2026. No macro, syntax, notation, axiom, sorry.
-/
import Derived.Test.YtcppmghhijffpaaDoorRows
import GoSem.ClaimSeven
namespace Go.Proofs.YtcppmghhijffpaaDoor
namespace Rows

/-- THE TIED CARD OF 'redactorlaw17.ListPlain'. -/
def listPlainCard : Claim7 := { stood := { row := listPlainRow, standIns := [], harness := (true, "f954e6444df4a14c0be0583b896a1f3a77184345c5b88656ba799b4bcfa01caf"), looks := false }, kinds := [], alts := [], laidByText := true, laidKinds := [.data, .data, .data, .data, .pinned], laidTests := true, laidLooks := .later }
def ListPlainCardSaid : Prop := Claim7.holds Tryd.pinned (.plain (OpenSpec.ofChange listPlainSpec)) listPlainCard

/-- THE TIED CARD OF 'redactorlaw17.ListShows'. -/
def listShowsCard : Claim7 := { stood := { row := listShowsRow, standIns := [], harness := (true, "f954e6444df4a14c0be0583b896a1f3a77184345c5b88656ba799b4bcfa01caf"), looks := false }, kinds := [], alts := [], laidByText := true, laidKinds := [.data, .data, .data, .data, .pinned], laidTests := true, laidLooks := .later }
def ListShowsCardSaid : Prop := Claim7.holds Tryd.pinned (.plain (OpenSpec.ofChange listShowsSpec)) listShowsCard

/-- THE TIED CARD OF 'redactorlaw17.ListFolds'. -/
def listFoldsCard : Claim7 := { stood := { row := listFoldsRow, standIns := [], harness := (true, "f954e6444df4a14c0be0583b896a1f3a77184345c5b88656ba799b4bcfa01caf"), looks := false }, kinds := [], alts := [], laidByText := true, laidKinds := [.data, .data, .data, .data, .pinned], laidTests := true, laidLooks := .later }
def ListFoldsCardSaid : Prop := Claim7.holds Tryd.pinned (.plain (OpenSpec.ofChange listFoldsSpec)) listFoldsCard

/-- THE TIED CARD OF 'redactorlaw17.ListSeen'. -/
def listSeenCard : Claim7 := { stood := { row := listSeenRow, standIns := [], harness := (true, "f954e6444df4a14c0be0583b896a1f3a77184345c5b88656ba799b4bcfa01caf"), looks := false }, kinds := [], alts := [], laidByText := true, laidKinds := [.data, .data, .data, .data, .pinned], laidTests := true, laidLooks := .later }
def ListSeenCardSaid : Prop := Claim7.holds Tryd.pinned (.plain (OpenSpec.ofChange listSeenSpec)) listSeenCard

/-- THE TIED CARD OF 'redactorlaw01.CellOrder'. -/
def cellOrderCard : Claim7 := { stood := { row := cellOrderRow, standIns := [], harness := (true, "f954e6444df4a14c0be0583b896a1f3a77184345c5b88656ba799b4bcfa01caf"), looks := false }, kinds := [], alts := [], laidByText := true, laidKinds := [.data, .data, .data, .data, .pinned], laidTests := true, laidLooks := .later }
def CellOrderCardSaid : Prop := Claim7.holds Tryd.pinned (.plain (OpenSpec.ofChange cellOrderSpec)) cellOrderCard

/-- THE TIED CARD OF 'redactorlaw01.CellCuts'. -/
def cellCutsCard : Claim7 := { stood := { row := cellCutsRow, standIns := [], harness := (true, "f954e6444df4a14c0be0583b896a1f3a77184345c5b88656ba799b4bcfa01caf"), looks := false }, kinds := [], alts := [], laidByText := true, laidKinds := [.data, .data, .data, .data, .pinned], laidTests := true, laidLooks := .later }
def CellCutsCardSaid : Prop := Claim7.holds Tryd.pinned (.plain (OpenSpec.ofChange cellCutsSpec)) cellCutsCard

/-- THE TIED CARD OF 'redactorlaw01.CellSeen'. -/
def cellSeenCard : Claim7 := { stood := { row := cellSeenRow, standIns := [], harness := (true, "f954e6444df4a14c0be0583b896a1f3a77184345c5b88656ba799b4bcfa01caf"), looks := false }, kinds := [], alts := [], laidByText := true, laidKinds := [.data, .data, .data, .data, .pinned], laidTests := true, laidLooks := .later }
def CellSeenCardSaid : Prop := Claim7.holds Tryd.pinned (.plain (OpenSpec.ofChange cellSeenSpec)) cellSeenCard

/-- THE TIED CARD OF 'redactorlaw01.CellOf'. -/
def cellOfCard : Claim7 := { stood := { row := cellOfRow, standIns := [], harness := (true, "f954e6444df4a14c0be0583b896a1f3a77184345c5b88656ba799b4bcfa01caf"), looks := false }, kinds := [], alts := [], laidByText := true, laidKinds := [.data, .data, .data, .data, .pinned], laidTests := true, laidLooks := .later }
def CellOfCardSaid : Prop := Claim7.holds Tryd.pinned (.plain (OpenSpec.ofChange cellOfSpec)) cellOfCard

/-- THE TIED CARD OF 'redactorlaw01.CellTexts'. -/
def cellTextsCard : Claim7 := { stood := { row := cellTextsRow, standIns := [], harness := (true, "f954e6444df4a14c0be0583b896a1f3a77184345c5b88656ba799b4bcfa01caf"), looks := false }, kinds := [], alts := [], laidByText := true, laidKinds := [.data, .data, .data, .data, .pinned], laidTests := true, laidLooks := .later }
def CellTextsCardSaid : Prop := Claim7.holds Tryd.pinned (.plain (OpenSpec.ofChange cellTextsSpec)) cellTextsCard

/-- THE TIED CARD OF 'redactorlaw01.CellFinds'. -/
def cellFindsCard : Claim7 := { stood := { row := cellFindsRow, standIns := [], harness := (true, "f954e6444df4a14c0be0583b896a1f3a77184345c5b88656ba799b4bcfa01caf"), looks := false }, kinds := [], alts := [], laidByText := true, laidKinds := [.data, .data, .data, .data, .pinned], laidTests := true, laidLooks := .later }
def CellFindsCardSaid : Prop := Claim7.holds Tryd.pinned (.plain (OpenSpec.ofChange cellFindsSpec)) cellFindsCard

/-- THE TIED CARD OF 'redactorlaw01.CellBytes'. -/
def cellBytesCard : Claim7 := { stood := { row := cellBytesRow, standIns := [], harness := (true, "f954e6444df4a14c0be0583b896a1f3a77184345c5b88656ba799b4bcfa01caf"), looks := false }, kinds := [], alts := [], laidByText := true, laidKinds := [.data, .data, .data, .data, .pinned], laidTests := true, laidLooks := .later }
def CellBytesCardSaid : Prop := Claim7.holds Tryd.pinned (.plain (OpenSpec.ofChange cellBytesSpec)) cellBytesCard

/-- THE TIED CARD OF 'redactorlaw01.CellAll'. -/
def cellAllCard : Claim7 := { stood := { row := cellAllRow, standIns := [], harness := (true, "f954e6444df4a14c0be0583b896a1f3a77184345c5b88656ba799b4bcfa01caf"), looks := false }, kinds := [], alts := [], laidByText := true, laidKinds := [.data, .data, .data, .data, .pinned], laidTests := true, laidLooks := .later }
def CellAllCardSaid : Prop := Claim7.holds Tryd.pinned (.plain (OpenSpec.ofChange cellAllSpec)) cellAllCard

/-- THE TIED CARD OF 'redactorlaw01.CellPlace'. -/
def cellPlaceCard : Claim7 := { stood := { row := cellPlaceRow, standIns := [], harness := (true, "f954e6444df4a14c0be0583b896a1f3a77184345c5b88656ba799b4bcfa01caf"), looks := false }, kinds := [], alts := [], laidByText := true, laidKinds := [.data, .data, .data, .data, .pinned], laidTests := true, laidLooks := .later }
def CellPlaceCardSaid : Prop := Claim7.holds Tryd.pinned (.plain (OpenSpec.ofChange cellPlaceSpec)) cellPlaceCard

/-- THE TIED CARD OF 'redactorlaw09.TreeLeaves'. -/
def treeLeavesCard : Claim7 := { stood := { row := treeLeavesRow, standIns := [], harness := (true, "f954e6444df4a14c0be0583b896a1f3a77184345c5b88656ba799b4bcfa01caf"), looks := false }, kinds := [], alts := [], laidByText := true, laidKinds := [.data, .data, .data], laidTests := true, laidLooks := .later }
def TreeLeavesCardSaid : Prop := Claim7.holds Tryd.pinned (.plain (OpenSpec.ofChange treeLeavesSpec)) treeLeavesCard

/-- THE TIED CARD OF 'redactorlaw09.TreeTimes'. -/
def treeTimesCard : Claim7 := { stood := { row := treeTimesRow, standIns := [], harness := (true, "f954e6444df4a14c0be0583b896a1f3a77184345c5b88656ba799b4bcfa01caf"), looks := false }, kinds := [], alts := [], laidByText := true, laidKinds := [.data, .data, .data], laidTests := true, laidLooks := .later }
def TreeTimesCardSaid : Prop := Claim7.holds Tryd.pinned (.plain (OpenSpec.ofChange treeTimesSpec)) treeTimesCard

/-- THE TIED CARD OF 'redactorlaw09.TreeRights'. -/
def treeRightsCard : Claim7 := { stood := { row := treeRightsRow, standIns := [], harness := (true, "f954e6444df4a14c0be0583b896a1f3a77184345c5b88656ba799b4bcfa01caf"), looks := false }, kinds := [], alts := [], laidByText := true, laidKinds := [.data, .data, .data], laidTests := true, laidLooks := .later }
def TreeRightsCardSaid : Prop := Claim7.holds Tryd.pinned (.plain (OpenSpec.ofChange treeRightsSpec)) treeRightsCard

/-- THE TIED CARD OF 'redactorlaw09.TreeGroups'. -/
def treeGroupsCard : Claim7 := { stood := { row := treeGroupsRow, standIns := [], harness := (true, "f954e6444df4a14c0be0583b896a1f3a77184345c5b88656ba799b4bcfa01caf"), looks := false }, kinds := [], alts := [], laidByText := true, laidKinds := [.data, .data, .data], laidTests := true, laidLooks := .later }
def TreeGroupsCardSaid : Prop := Claim7.holds Tryd.pinned (.plain (OpenSpec.ofChange treeGroupsSpec)) treeGroupsCard

/-- THE TIED CARD OF 'redactorlaw09.TreeFew'. -/
def treeFewCard : Claim7 := { stood := { row := treeFewRow, standIns := [], harness := (true, "f954e6444df4a14c0be0583b896a1f3a77184345c5b88656ba799b4bcfa01caf"), looks := false }, kinds := [], alts := [], laidByText := true, laidKinds := [.data, .data, .data], laidTests := true, laidLooks := .later }
def TreeFewCardSaid : Prop := Claim7.holds Tryd.pinned (.plain (OpenSpec.ofChange treeFewSpec)) treeFewCard

/-- THE TIED CARD OF 'redactorlaw09.TreeBuilds'. -/
def treeBuildsCard : Claim7 := { stood := { row := treeBuildsRow, standIns := [], harness := (true, "f954e6444df4a14c0be0583b896a1f3a77184345c5b88656ba799b4bcfa01caf"), looks := false }, kinds := [], alts := [], laidByText := true, laidKinds := [.data, .data, .data], laidTests := true, laidLooks := .later }
def TreeBuildsCardSaid : Prop := Claim7.holds Tryd.pinned (.plain (OpenSpec.ofChange treeBuildsSpec)) treeBuildsCard

/-- THE SECOND FORM's CARD OF 'redactorlaw17.ListPlain'. -/
def listPlainUptoCard : Claim7 := { stood := { row := listPlainUptoRow, standIns := [], harness := (true, "f954e6444df4a14c0be0583b896a1f3a77184345c5b88656ba799b4bcfa01caf"), looks := false }, kinds := [], alts := [], laidByText := true, laidKinds := [.data, .data, .data, .data, .pinned], laidTests := true, laidLooks := .later }
def ListPlainUptoCardSaid : Prop := Claim7.holds Tryd.pinned (.plain (OpenSpec.upto listPlainSpec)) listPlainUptoCard

/-- THE SECOND FORM's CARD OF 'redactorlaw17.ListShows'. -/
def listShowsUptoCard : Claim7 := { stood := { row := listShowsUptoRow, standIns := [], harness := (true, "f954e6444df4a14c0be0583b896a1f3a77184345c5b88656ba799b4bcfa01caf"), looks := false }, kinds := [], alts := [], laidByText := true, laidKinds := [.data, .data, .data, .data, .pinned], laidTests := true, laidLooks := .later }
def ListShowsUptoCardSaid : Prop := Claim7.holds Tryd.pinned (.plain (OpenSpec.upto listShowsSpec)) listShowsUptoCard

/-- THE SECOND FORM's CARD OF 'redactorlaw17.ListFolds'. -/
def listFoldsUptoCard : Claim7 := { stood := { row := listFoldsUptoRow, standIns := [], harness := (true, "f954e6444df4a14c0be0583b896a1f3a77184345c5b88656ba799b4bcfa01caf"), looks := false }, kinds := [], alts := [], laidByText := true, laidKinds := [.data, .data, .data, .data, .pinned], laidTests := true, laidLooks := .later }
def ListFoldsUptoCardSaid : Prop := Claim7.holds Tryd.pinned (.plain (OpenSpec.upto listFoldsSpec)) listFoldsUptoCard

/-- THE SECOND FORM's CARD OF 'redactorlaw17.ListSeen'. -/
def listSeenUptoCard : Claim7 := { stood := { row := listSeenUptoRow, standIns := [], harness := (true, "f954e6444df4a14c0be0583b896a1f3a77184345c5b88656ba799b4bcfa01caf"), looks := false }, kinds := [], alts := [], laidByText := true, laidKinds := [.data, .data, .data, .data, .pinned], laidTests := true, laidLooks := .later }
def ListSeenUptoCardSaid : Prop := Claim7.holds Tryd.pinned (.plain (OpenSpec.upto listSeenSpec)) listSeenUptoCard

/-- THE SECOND FORM's CARD OF 'redactorlaw01.CellOrder'. -/
def cellOrderUptoCard : Claim7 := { stood := { row := cellOrderUptoRow, standIns := [], harness := (true, "f954e6444df4a14c0be0583b896a1f3a77184345c5b88656ba799b4bcfa01caf"), looks := false }, kinds := [], alts := [], laidByText := true, laidKinds := [.data, .data, .data, .data, .pinned], laidTests := true, laidLooks := .later }
def CellOrderUptoCardSaid : Prop := Claim7.holds Tryd.pinned (.plain (OpenSpec.upto cellOrderSpec)) cellOrderUptoCard

/-- THE SECOND FORM's CARD OF 'redactorlaw01.CellCuts'. -/
def cellCutsUptoCard : Claim7 := { stood := { row := cellCutsUptoRow, standIns := [], harness := (true, "f954e6444df4a14c0be0583b896a1f3a77184345c5b88656ba799b4bcfa01caf"), looks := false }, kinds := [], alts := [], laidByText := true, laidKinds := [.data, .data, .data, .data, .pinned], laidTests := true, laidLooks := .later }
def CellCutsUptoCardSaid : Prop := Claim7.holds Tryd.pinned (.plain (OpenSpec.upto cellCutsSpec)) cellCutsUptoCard

/-- THE SECOND FORM's CARD OF 'redactorlaw01.CellSeen'. -/
def cellSeenUptoCard : Claim7 := { stood := { row := cellSeenUptoRow, standIns := [], harness := (true, "f954e6444df4a14c0be0583b896a1f3a77184345c5b88656ba799b4bcfa01caf"), looks := false }, kinds := [], alts := [], laidByText := true, laidKinds := [.data, .data, .data, .data, .pinned], laidTests := true, laidLooks := .later }
def CellSeenUptoCardSaid : Prop := Claim7.holds Tryd.pinned (.plain (OpenSpec.upto cellSeenSpec)) cellSeenUptoCard

/-- THE SECOND FORM's CARD OF 'redactorlaw01.CellOf'. -/
def cellOfUptoCard : Claim7 := { stood := { row := cellOfUptoRow, standIns := [], harness := (true, "f954e6444df4a14c0be0583b896a1f3a77184345c5b88656ba799b4bcfa01caf"), looks := false }, kinds := [], alts := [], laidByText := true, laidKinds := [.data, .data, .data, .data, .pinned], laidTests := true, laidLooks := .later }
def CellOfUptoCardSaid : Prop := Claim7.holds Tryd.pinned (.plain (OpenSpec.upto cellOfSpec)) cellOfUptoCard

/-- THE SECOND FORM's CARD OF 'redactorlaw01.CellTexts'. -/
def cellTextsUptoCard : Claim7 := { stood := { row := cellTextsUptoRow, standIns := [], harness := (true, "f954e6444df4a14c0be0583b896a1f3a77184345c5b88656ba799b4bcfa01caf"), looks := false }, kinds := [], alts := [], laidByText := true, laidKinds := [.data, .data, .data, .data, .pinned], laidTests := true, laidLooks := .later }
def CellTextsUptoCardSaid : Prop := Claim7.holds Tryd.pinned (.plain (OpenSpec.upto cellTextsSpec)) cellTextsUptoCard

/-- THE SECOND FORM's CARD OF 'redactorlaw01.CellFinds'. -/
def cellFindsUptoCard : Claim7 := { stood := { row := cellFindsUptoRow, standIns := [], harness := (true, "f954e6444df4a14c0be0583b896a1f3a77184345c5b88656ba799b4bcfa01caf"), looks := false }, kinds := [], alts := [], laidByText := true, laidKinds := [.data, .data, .data, .data, .pinned], laidTests := true, laidLooks := .later }
def CellFindsUptoCardSaid : Prop := Claim7.holds Tryd.pinned (.plain (OpenSpec.upto cellFindsSpec)) cellFindsUptoCard

/-- THE SECOND FORM's CARD OF 'redactorlaw01.CellBytes'. -/
def cellBytesUptoCard : Claim7 := { stood := { row := cellBytesUptoRow, standIns := [], harness := (true, "f954e6444df4a14c0be0583b896a1f3a77184345c5b88656ba799b4bcfa01caf"), looks := false }, kinds := [], alts := [], laidByText := true, laidKinds := [.data, .data, .data, .data, .pinned], laidTests := true, laidLooks := .later }
def CellBytesUptoCardSaid : Prop := Claim7.holds Tryd.pinned (.plain (OpenSpec.upto cellBytesSpec)) cellBytesUptoCard

/-- THE SECOND FORM's CARD OF 'redactorlaw01.CellAll'. -/
def cellAllUptoCard : Claim7 := { stood := { row := cellAllUptoRow, standIns := [], harness := (true, "f954e6444df4a14c0be0583b896a1f3a77184345c5b88656ba799b4bcfa01caf"), looks := false }, kinds := [], alts := [], laidByText := true, laidKinds := [.data, .data, .data, .data, .pinned], laidTests := true, laidLooks := .later }
def CellAllUptoCardSaid : Prop := Claim7.holds Tryd.pinned (.plain (OpenSpec.upto cellAllSpec)) cellAllUptoCard

/-- THE SECOND FORM's CARD OF 'redactorlaw01.CellPlace'. -/
def cellPlaceUptoCard : Claim7 := { stood := { row := cellPlaceUptoRow, standIns := [], harness := (true, "f954e6444df4a14c0be0583b896a1f3a77184345c5b88656ba799b4bcfa01caf"), looks := false }, kinds := [], alts := [], laidByText := true, laidKinds := [.data, .data, .data, .data, .pinned], laidTests := true, laidLooks := .later }
def CellPlaceUptoCardSaid : Prop := Claim7.holds Tryd.pinned (.plain (OpenSpec.upto cellPlaceSpec)) cellPlaceUptoCard

/-- THE SECOND FORM's CARD OF 'redactorlaw09.TreeLeaves'. -/
def treeLeavesUptoCard : Claim7 := { stood := { row := treeLeavesUptoRow, standIns := [], harness := (true, "f954e6444df4a14c0be0583b896a1f3a77184345c5b88656ba799b4bcfa01caf"), looks := false }, kinds := [], alts := [], laidByText := true, laidKinds := [.data, .data, .data], laidTests := true, laidLooks := .later }
def TreeLeavesUptoCardSaid : Prop := Claim7.holds Tryd.pinned (.plain (OpenSpec.upto treeLeavesSpec)) treeLeavesUptoCard

/-- THE SECOND FORM's CARD OF 'redactorlaw09.TreeTimes'. -/
def treeTimesUptoCard : Claim7 := { stood := { row := treeTimesUptoRow, standIns := [], harness := (true, "f954e6444df4a14c0be0583b896a1f3a77184345c5b88656ba799b4bcfa01caf"), looks := false }, kinds := [], alts := [], laidByText := true, laidKinds := [.data, .data, .data], laidTests := true, laidLooks := .later }
def TreeTimesUptoCardSaid : Prop := Claim7.holds Tryd.pinned (.plain (OpenSpec.upto treeTimesSpec)) treeTimesUptoCard

/-- THE SECOND FORM's CARD OF 'redactorlaw09.TreeRights'. -/
def treeRightsUptoCard : Claim7 := { stood := { row := treeRightsUptoRow, standIns := [], harness := (true, "f954e6444df4a14c0be0583b896a1f3a77184345c5b88656ba799b4bcfa01caf"), looks := false }, kinds := [], alts := [], laidByText := true, laidKinds := [.data, .data, .data], laidTests := true, laidLooks := .later }
def TreeRightsUptoCardSaid : Prop := Claim7.holds Tryd.pinned (.plain (OpenSpec.upto treeRightsSpec)) treeRightsUptoCard

/-- THE SECOND FORM's CARD OF 'redactorlaw09.TreeGroups'. -/
def treeGroupsUptoCard : Claim7 := { stood := { row := treeGroupsUptoRow, standIns := [], harness := (true, "f954e6444df4a14c0be0583b896a1f3a77184345c5b88656ba799b4bcfa01caf"), looks := false }, kinds := [], alts := [], laidByText := true, laidKinds := [.data, .data, .data], laidTests := true, laidLooks := .later }
def TreeGroupsUptoCardSaid : Prop := Claim7.holds Tryd.pinned (.plain (OpenSpec.upto treeGroupsSpec)) treeGroupsUptoCard

/-- THE SECOND FORM's CARD OF 'redactorlaw09.TreeFew'. -/
def treeFewUptoCard : Claim7 := { stood := { row := treeFewUptoRow, standIns := [], harness := (true, "f954e6444df4a14c0be0583b896a1f3a77184345c5b88656ba799b4bcfa01caf"), looks := false }, kinds := [], alts := [], laidByText := true, laidKinds := [.data, .data, .data], laidTests := true, laidLooks := .later }
def TreeFewUptoCardSaid : Prop := Claim7.holds Tryd.pinned (.plain (OpenSpec.upto treeFewSpec)) treeFewUptoCard

/-- THE SECOND FORM's CARD OF 'redactorlaw09.TreeBuilds'. -/
def treeBuildsUptoCard : Claim7 := { stood := { row := treeBuildsUptoRow, standIns := [], harness := (true, "f954e6444df4a14c0be0583b896a1f3a77184345c5b88656ba799b4bcfa01caf"), looks := false }, kinds := [], alts := [], laidByText := true, laidKinds := [.data, .data, .data], laidTests := true, laidLooks := .later }
def TreeBuildsUptoCardSaid : Prop := Claim7.holds Tryd.pinned (.plain (OpenSpec.upto treeBuildsSpec)) treeBuildsUptoCard
end Rows
end Go.Proofs.YtcppmghhijffpaaDoor
