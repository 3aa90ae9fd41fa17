/-
  DERIVED. GIVEN WITH THE SEED: THE CARDS: each row of YtmffocankommaaaGreatDoorRows.lean that lists a variable, with what it lists TIED to the program's text (the seventh form; the later family's looks); each row that meets fmt, with fmt's text TOLD by the authors' own Lean function (tested against real Go, not proved from fmt's source: count such statements apart). THE CARD IS WHAT COUNTS. Prove the row's statement (the work); the ties are given (YtmffocankommaaaGreatDoorTie.lean); close each card by the builder's one call (the guide's Derived/Test/ToyasCard.lean, 'card_holds'). Laid BY PROGRAM, IN A SANDBOX (cutbox-door.mjs). By AI agents, Wed Nov 11 2026. No macro, syntax, notation, axiom, sorry.
-/
import Derived.Test.YtmffocankommaaaGreatDoorRows
import GoSem.ClaimSeven
namespace Go.Proofs.YtmffocankommaaaGreatDoor
namespace Rows

/-- THE TIED CARD OF 'ancepslaw22.MetreParses'. -/
def metreParsesCard : Claim7 := { stood := { row := metreParsesRow, standIns := [], harness := (true, "f829d2bbc858257835728929a8ebb71ed09bc59dbe26c84978204b4a89c27e30"), looks := false }, kinds := [], alts := [], laidByText := true, laidKinds := [.data, .data, .data], laidTests := true, laidLooks := .later }
def MetreParsesCardSaid : Prop := Claim7.holds Tryz.pinned (.plain (OpenSpec.ofChange metreParsesSpec)) metreParsesCard

/-- THE TIED CARD OF 'ancepslaw22.MetreBody'. -/
def metreBodyCard : Claim7 := { stood := { row := metreBodyRow, standIns := [], harness := (true, "f829d2bbc858257835728929a8ebb71ed09bc59dbe26c84978204b4a89c27e30"), looks := false }, kinds := [], alts := [], laidByText := true, laidKinds := [.data, .data, .data], laidTests := true, laidLooks := .later }
def MetreBodyCardSaid : Prop := Claim7.holds Tryz.pinned (.plain (OpenSpec.ofChange metreBodySpec)) metreBodyCard

/-- THE SECOND FORM's CARD OF 'ancepslaw22.MetreParses'. -/
def metreParsesUptoCard : Claim7 := { stood := { row := metreParsesUptoRow, standIns := [], harness := (true, "f829d2bbc858257835728929a8ebb71ed09bc59dbe26c84978204b4a89c27e30"), looks := false }, kinds := [], alts := [], laidByText := true, laidKinds := [.data, .data, .data], laidTests := true, laidLooks := .later }
def MetreParsesUptoCardSaid : Prop := Claim7.holds Tryz.pinned (.plain (OpenSpec.upto metreParsesSpec)) metreParsesUptoCard

/-- THE SECOND FORM's CARD OF 'ancepslaw22.MetreBody'. -/
def metreBodyUptoCard : Claim7 := { stood := { row := metreBodyUptoRow, standIns := [], harness := (true, "f829d2bbc858257835728929a8ebb71ed09bc59dbe26c84978204b4a89c27e30"), looks := false }, kinds := [], alts := [], laidByText := true, laidKinds := [.data, .data, .data], laidTests := true, laidLooks := .later }
def MetreBodyUptoCardSaid : Prop := Claim7.holds Tryz.pinned (.plain (OpenSpec.upto metreBodySpec)) metreBodyUptoCard
end Rows
end Go.Proofs.YtmffocankommaaaGreatDoor
