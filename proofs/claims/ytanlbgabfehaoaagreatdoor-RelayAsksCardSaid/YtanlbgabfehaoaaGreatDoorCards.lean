/-
  DERIVED. GIVEN WITH THE SEED: THE CARDS: each row of YtanlbgabfehaoaaGreatDoorRows.lean that lists a variable, with what it lists TIED to the program's text (the seventh form; the later family's looks); each row that meets fmt, with fmt's text TOLD by the authors' own Lean function (tested against real Go, not proved from fmt's source: count such statements apart). THE CARD IS WHAT COUNTS. Prove the row's statement (the work); the ties are given (YtanlbgabfehaoaaGreatDoorTie.lean); close each card by the builder's one call (the guide's Derived/Test/ToyasCard.lean, 'card_holds'). Laid BY PROGRAM, IN A SANDBOX (cutbox-door.mjs). By AI agents, Wed Nov 11 2026. No macro, syntax, notation, axiom, sorry.
-/
import Derived.Test.YtanlbgabfehaoaaGreatDoorRows
import GoSem.ClaimSeven
namespace Go.Proofs.YtanlbgabfehaoaaGreatDoor
namespace Rows

/-- THE TIED CARD OF 'quaysidelaw40.RelayPlays'. -/
def relayPlaysCard : Claim7 := { stood := { row := relayPlaysRow, standIns := [], harness := (true, "0fb8dc9913b05273ba88ddf8a9d9e2c8fc22b65c890027b1ca9a8d180647dba7"), looks := true }, kinds := [], alts := [], laidByText := true, laidKinds := [.data, .data, .data, .data, .sentinel, .sentinel, .widerDeep, .pinned], laidTests := true, laidLooks := .later }
def RelayPlaysCardSaid : Prop := Claim7.holds Tryz.pinned (.plain (OpenSpec.ofChange relayPlaysSpec)) relayPlaysCard

/-- THE TIED CARD OF 'quaysidelaw40.RelayBrings'. -/
def relayBringsCard : Claim7 := { stood := { row := relayBringsRow, standIns := [], harness := (true, "0fb8dc9913b05273ba88ddf8a9d9e2c8fc22b65c890027b1ca9a8d180647dba7"), looks := true }, kinds := [], alts := [], laidByText := true, laidKinds := [.data, .data, .data, .data, .sentinel, .sentinel, .widerDeep, .pinned], laidTests := true, laidLooks := .later }
def RelayBringsCardSaid : Prop := Claim7.holds Tryz.pinned (.plain (OpenSpec.ofChange relayBringsSpec)) relayBringsCard

/-- THE TIED CARD OF 'quaysidelaw40.RelayAsks'. -/
def relayAsksCard : Claim7 := { stood := { row := relayAsksRow, standIns := [], harness := (true, "0fb8dc9913b05273ba88ddf8a9d9e2c8fc22b65c890027b1ca9a8d180647dba7"), looks := true }, kinds := [], alts := [], laidByText := true, laidKinds := [.data, .data, .data, .data, .sentinel, .sentinel, .widerDeep, .pinned], laidTests := true, laidLooks := .later }
def RelayAsksCardSaid : Prop := Claim7.holds Tryz.pinned (.plain (OpenSpec.ofChange relayAsksSpec)) relayAsksCard

/-- THE TIED CARD OF 'quaysidelaw40.RelayNone'. -/
def relayNoneCard : Claim7 := { stood := { row := relayNoneRow, standIns := [], harness := (true, "0fb8dc9913b05273ba88ddf8a9d9e2c8fc22b65c890027b1ca9a8d180647dba7"), looks := true }, kinds := [], alts := [], laidByText := true, laidKinds := [.data, .data, .data, .data, .sentinel, .sentinel, .widerDeep, .pinned], laidTests := true, laidLooks := .later }
def RelayNoneCardSaid : Prop := Claim7.holds Tryz.pinned (.plain (OpenSpec.ofChange relayNoneSpec)) relayNoneCard

/-- THE TIED CARD OF 'quaysidelaw40.RelaySafe'. -/
def relaySafeCard : Claim7 := { stood := { row := relaySafeRow, standIns := [], harness := (true, "0fb8dc9913b05273ba88ddf8a9d9e2c8fc22b65c890027b1ca9a8d180647dba7"), looks := true }, kinds := [], alts := [], laidByText := true, laidKinds := [.data, .data, .data, .data, .sentinel, .sentinel, .widerDeep, .pinned], laidTests := true, laidLooks := .later }
def RelaySafeCardSaid : Prop := Claim7.holds Tryz.pinned (.plain (OpenSpec.ofChange relaySafeSpec)) relaySafeCard

/-- THE SECOND FORM's CARD OF 'quaysidelaw40.RelayPlays'. -/
def relayPlaysUptoCard : Claim7 := { stood := { row := relayPlaysUptoRow, standIns := [], harness := (true, "0fb8dc9913b05273ba88ddf8a9d9e2c8fc22b65c890027b1ca9a8d180647dba7"), looks := true }, kinds := [], alts := [], laidByText := true, laidKinds := [.data, .data, .data, .data, .sentinel, .sentinel, .widerDeep, .pinned], laidTests := true, laidLooks := .later }
def RelayPlaysUptoCardSaid : Prop := Claim7.holds Tryz.pinned (.plain (OpenSpec.upto relayPlaysSpec)) relayPlaysUptoCard

/-- THE SECOND FORM's CARD OF 'quaysidelaw40.RelayBrings'. -/
def relayBringsUptoCard : Claim7 := { stood := { row := relayBringsUptoRow, standIns := [], harness := (true, "0fb8dc9913b05273ba88ddf8a9d9e2c8fc22b65c890027b1ca9a8d180647dba7"), looks := true }, kinds := [], alts := [], laidByText := true, laidKinds := [.data, .data, .data, .data, .sentinel, .sentinel, .widerDeep, .pinned], laidTests := true, laidLooks := .later }
def RelayBringsUptoCardSaid : Prop := Claim7.holds Tryz.pinned (.plain (OpenSpec.upto relayBringsSpec)) relayBringsUptoCard

/-- THE SECOND FORM's CARD OF 'quaysidelaw40.RelayAsks'. -/
def relayAsksUptoCard : Claim7 := { stood := { row := relayAsksUptoRow, standIns := [], harness := (true, "0fb8dc9913b05273ba88ddf8a9d9e2c8fc22b65c890027b1ca9a8d180647dba7"), looks := true }, kinds := [], alts := [], laidByText := true, laidKinds := [.data, .data, .data, .data, .sentinel, .sentinel, .widerDeep, .pinned], laidTests := true, laidLooks := .later }
def RelayAsksUptoCardSaid : Prop := Claim7.holds Tryz.pinned (.plain (OpenSpec.upto relayAsksSpec)) relayAsksUptoCard

/-- THE SECOND FORM's CARD OF 'quaysidelaw40.RelayNone'. -/
def relayNoneUptoCard : Claim7 := { stood := { row := relayNoneUptoRow, standIns := [], harness := (true, "0fb8dc9913b05273ba88ddf8a9d9e2c8fc22b65c890027b1ca9a8d180647dba7"), looks := true }, kinds := [], alts := [], laidByText := true, laidKinds := [.data, .data, .data, .data, .sentinel, .sentinel, .widerDeep, .pinned], laidTests := true, laidLooks := .later }
def RelayNoneUptoCardSaid : Prop := Claim7.holds Tryz.pinned (.plain (OpenSpec.upto relayNoneSpec)) relayNoneUptoCard

/-- THE SECOND FORM's CARD OF 'quaysidelaw40.RelaySafe'. -/
def relaySafeUptoCard : Claim7 := { stood := { row := relaySafeUptoRow, standIns := [], harness := (true, "0fb8dc9913b05273ba88ddf8a9d9e2c8fc22b65c890027b1ca9a8d180647dba7"), looks := true }, kinds := [], alts := [], laidByText := true, laidKinds := [.data, .data, .data, .data, .sentinel, .sentinel, .widerDeep, .pinned], laidTests := true, laidLooks := .later }
def RelaySafeUptoCardSaid : Prop := Claim7.holds Tryz.pinned (.plain (OpenSpec.upto relaySafeSpec)) relaySafeUptoCard
end Rows
end Go.Proofs.YtanlbgabfehaoaaGreatDoor
