/-
  DERIVED. GIVEN WITH THE SEED: THE CARDS: each row of YtcmaledchnhccaaGreatDoorRows.lean that lists a variable, with what it lists TIED to the program's text (the seventh form; the later family's looks); each row that meets fmt, with fmt's text TOLD by the authors' own Lean function (tested against real Go, not proved from fmt's source: count such statements apart). THE CARD IS WHAT COUNTS. Prove the row's statement (the work); the ties are given (YtcmaledchnhccaaGreatDoorTie.lean); close each card by the builder's one call (the guide's Derived/Test/ToyasCard.lean, 'card_holds'). Laid BY PROGRAM, IN A SANDBOX (cutbox-door.mjs). By AI agents, Wed Nov 11 2026. No macro, syntax, notation, axiom, sorry.
-/
import Derived.Test.YtcmaledchnhccaaGreatDoorRows
import GoSem.ClaimSeven
namespace Go.Proofs.YtcmaledchnhccaaGreatDoor
namespace Rows

/-- THE TIED CARD OF 'klaxonlaw15.BackRuns'. -/
def backRunsCard : Claim7 := { stood := { row := backRunsRow, standIns := [], harness := (true, "229364030c502eb593cd6d8eacdba4435100a030031fb77f3c8115b9d90b6581"), looks := false }, kinds := [], alts := [], laidByText := true, laidKinds := [.data, .pinned], laidTests := true, laidLooks := .later }
def BackRunsCardSaid : Prop := Claim7.holds Tryz.pinned (.plain (OpenSpec.ofChange backRunsSpec)) backRunsCard

/-- THE TIED CARD OF 'klaxonlaw15.BackTells'. -/
def backTellsCard : Claim7 := { stood := { row := backTellsRow, standIns := [], harness := (true, "229364030c502eb593cd6d8eacdba4435100a030031fb77f3c8115b9d90b6581"), looks := false }, kinds := [], alts := [], laidByText := true, laidKinds := [.data, .pinned], laidTests := true, laidLooks := .later }
def BackTellsCardSaid : Prop := Claim7.holds Tryz.pinned (.plain (OpenSpec.ofChange backTellsSpec)) backTellsCard

/-- THE TIED CARD OF 'klaxonlaw15.BackApply'. -/
def backApplyCard : Claim7 := { stood := { row := backApplyRow, standIns := [], harness := (true, "229364030c502eb593cd6d8eacdba4435100a030031fb77f3c8115b9d90b6581"), looks := false }, kinds := [], alts := [], laidByText := true, laidKinds := [.data, .pinned], laidTests := true, laidLooks := .later }
def BackApplyCardSaid : Prop := Claim7.holds Tryz.pinned (.plain (OpenSpec.ofChange backApplySpec)) backApplyCard

/-- THE TIED CARD OF 'klaxonlaw15.BackPoints'. -/
def backPointsCard : Claim7 := { stood := { row := backPointsRow, standIns := [], harness := (true, "229364030c502eb593cd6d8eacdba4435100a030031fb77f3c8115b9d90b6581"), looks := false }, kinds := [], alts := [], laidByText := true, laidKinds := [.data, .pinned], laidTests := true, laidLooks := .later }
def BackPointsCardSaid : Prop := Claim7.holds Tryz.pinned (.plain (OpenSpec.ofChange backPointsSpec)) backPointsCard

/-- THE TIED CARD OF 'klaxonlaw15.BackHolds'. -/
def backHoldsCard : Claim7 := { stood := { row := backHoldsRow, standIns := [], harness := (true, "229364030c502eb593cd6d8eacdba4435100a030031fb77f3c8115b9d90b6581"), looks := false }, kinds := [], alts := [], laidByText := true, laidKinds := [.data, .pinned], laidTests := true, laidLooks := .later }
def BackHoldsCardSaid : Prop := Claim7.holds Tryz.pinned (.plain (OpenSpec.ofChange backHoldsSpec)) backHoldsCard

/-- THE TIED CARD OF 'klaxonlaw15.BackOrder'. -/
def backOrderCard : Claim7 := { stood := { row := backOrderRow, standIns := [], harness := (true, "229364030c502eb593cd6d8eacdba4435100a030031fb77f3c8115b9d90b6581"), looks := false }, kinds := [], alts := [], laidByText := true, laidKinds := [.data, .pinned], laidTests := true, laidLooks := .later }
def BackOrderCardSaid : Prop := Claim7.holds Tryz.pinned (.plain (OpenSpec.ofChange backOrderSpec)) backOrderCard

/-- THE TIED CARD OF 'klaxonlaw15.BackLive'. -/
def backLiveCard : Claim7 := { stood := { row := backLiveRow, standIns := [], harness := (true, "229364030c502eb593cd6d8eacdba4435100a030031fb77f3c8115b9d90b6581"), looks := false }, kinds := [], alts := [], laidByText := true, laidKinds := [.data, .pinned], laidTests := true, laidLooks := .later }
def BackLiveCardSaid : Prop := Claim7.holds Tryz.pinned (.plain (OpenSpec.ofChange backLiveSpec)) backLiveCard

/-- THE TIED CARD OF 'klaxonlaw16.DefineLive'. -/
def defineLiveCard : Claim7 := { stood := { row := defineLiveRow, standIns := [], harness := (true, "229364030c502eb593cd6d8eacdba4435100a030031fb77f3c8115b9d90b6581"), looks := false }, kinds := [], alts := [], laidByText := true, laidKinds := [.data, .pinned], laidTests := true, laidLooks := .later }
def DefineLiveCardSaid : Prop := Claim7.holds Tryz.pinned (.plain (OpenSpec.ofChange defineLiveSpec)) defineLiveCard

/-- THE SECOND FORM's CARD OF 'klaxonlaw15.BackRuns'. -/
def backRunsUptoCard : Claim7 := { stood := { row := backRunsUptoRow, standIns := [], harness := (true, "229364030c502eb593cd6d8eacdba4435100a030031fb77f3c8115b9d90b6581"), looks := false }, kinds := [], alts := [], laidByText := true, laidKinds := [.data, .pinned], laidTests := true, laidLooks := .later }
def BackRunsUptoCardSaid : Prop := Claim7.holds Tryz.pinned (.plain (OpenSpec.upto backRunsSpec)) backRunsUptoCard

/-- THE SECOND FORM's CARD OF 'klaxonlaw15.BackTells'. -/
def backTellsUptoCard : Claim7 := { stood := { row := backTellsUptoRow, standIns := [], harness := (true, "229364030c502eb593cd6d8eacdba4435100a030031fb77f3c8115b9d90b6581"), looks := false }, kinds := [], alts := [], laidByText := true, laidKinds := [.data, .pinned], laidTests := true, laidLooks := .later }
def BackTellsUptoCardSaid : Prop := Claim7.holds Tryz.pinned (.plain (OpenSpec.upto backTellsSpec)) backTellsUptoCard

/-- THE SECOND FORM's CARD OF 'klaxonlaw15.BackApply'. -/
def backApplyUptoCard : Claim7 := { stood := { row := backApplyUptoRow, standIns := [], harness := (true, "229364030c502eb593cd6d8eacdba4435100a030031fb77f3c8115b9d90b6581"), looks := false }, kinds := [], alts := [], laidByText := true, laidKinds := [.data, .pinned], laidTests := true, laidLooks := .later }
def BackApplyUptoCardSaid : Prop := Claim7.holds Tryz.pinned (.plain (OpenSpec.upto backApplySpec)) backApplyUptoCard

/-- THE SECOND FORM's CARD OF 'klaxonlaw15.BackPoints'. -/
def backPointsUptoCard : Claim7 := { stood := { row := backPointsUptoRow, standIns := [], harness := (true, "229364030c502eb593cd6d8eacdba4435100a030031fb77f3c8115b9d90b6581"), looks := false }, kinds := [], alts := [], laidByText := true, laidKinds := [.data, .pinned], laidTests := true, laidLooks := .later }
def BackPointsUptoCardSaid : Prop := Claim7.holds Tryz.pinned (.plain (OpenSpec.upto backPointsSpec)) backPointsUptoCard

/-- THE SECOND FORM's CARD OF 'klaxonlaw15.BackHolds'. -/
def backHoldsUptoCard : Claim7 := { stood := { row := backHoldsUptoRow, standIns := [], harness := (true, "229364030c502eb593cd6d8eacdba4435100a030031fb77f3c8115b9d90b6581"), looks := false }, kinds := [], alts := [], laidByText := true, laidKinds := [.data, .pinned], laidTests := true, laidLooks := .later }
def BackHoldsUptoCardSaid : Prop := Claim7.holds Tryz.pinned (.plain (OpenSpec.upto backHoldsSpec)) backHoldsUptoCard

/-- THE SECOND FORM's CARD OF 'klaxonlaw15.BackOrder'. -/
def backOrderUptoCard : Claim7 := { stood := { row := backOrderUptoRow, standIns := [], harness := (true, "229364030c502eb593cd6d8eacdba4435100a030031fb77f3c8115b9d90b6581"), looks := false }, kinds := [], alts := [], laidByText := true, laidKinds := [.data, .pinned], laidTests := true, laidLooks := .later }
def BackOrderUptoCardSaid : Prop := Claim7.holds Tryz.pinned (.plain (OpenSpec.upto backOrderSpec)) backOrderUptoCard

/-- THE SECOND FORM's CARD OF 'klaxonlaw15.BackLive'. -/
def backLiveUptoCard : Claim7 := { stood := { row := backLiveUptoRow, standIns := [], harness := (true, "229364030c502eb593cd6d8eacdba4435100a030031fb77f3c8115b9d90b6581"), looks := false }, kinds := [], alts := [], laidByText := true, laidKinds := [.data, .pinned], laidTests := true, laidLooks := .later }
def BackLiveUptoCardSaid : Prop := Claim7.holds Tryz.pinned (.plain (OpenSpec.upto backLiveSpec)) backLiveUptoCard

/-- THE SECOND FORM's CARD OF 'klaxonlaw16.DefineLive'. -/
def defineLiveUptoCard : Claim7 := { stood := { row := defineLiveUptoRow, standIns := [], harness := (true, "229364030c502eb593cd6d8eacdba4435100a030031fb77f3c8115b9d90b6581"), looks := false }, kinds := [], alts := [], laidByText := true, laidKinds := [.data, .pinned], laidTests := true, laidLooks := .later }
def DefineLiveUptoCardSaid : Prop := Claim7.holds Tryz.pinned (.plain (OpenSpec.upto defineLiveSpec)) defineLiveUptoCard
end Rows
end Go.Proofs.YtcmaledchnhccaaGreatDoor
