/-
  DERIVED. GIVEN WITH THE SEED: THE CARDS: each row of YtmffocankommaaaDoorRows.lean that lists a variable, with what it lists TIED to the program's text (the seventh form; the later family's looks); each row that meets fmt, with fmt's text TOLD by the authors' own Lean function (tested against real Go, not proved from fmt's source: count such statements apart). THE CARD IS WHAT COUNTS. Prove the row's statement (the work); the ties are given (YtmffocankommaaaDoorTie.lean); close each card by the builder's one call (the guide's Derived/Test/ToyasCard.lean, 'card_holds'). Laid BY PROGRAM, IN A SANDBOX (cutbox-door.mjs). By AI agents, Wed Nov 11 2026. No macro, syntax, notation, axiom, sorry.
-/
import Derived.Test.YtmffocankommaaaDoorRows
import GoSem.ClaimSeven
namespace Go.Proofs.YtmffocankommaaaDoor
namespace Rows

/-- THE TIED CARD OF 'ancepslaw22.MetreParsesBody'. -/
def metreParsesBodyCard : Claim7 := { stood := { row := metreParsesBodyRow, standIns := [], harness := (true, "cd6c7c2771b52cc5b6f81d578e2e327506292b60c7bcc8e9551ac29814aba228"), looks := false }, kinds := [], alts := [], laidByText := true, laidKinds := [.data, .data, .data], laidTests := true, laidLooks := .later }
def MetreParsesBodyCardSaid : Prop := Claim7.holds Tryd.pinned (.plain (OpenSpec.ofChange metreParsesBodySpec)) metreParsesBodyCard

/-- THE TIED CARD OF 'ancepslaw22.MetreLayout'. -/
def metreLayoutCard : Claim7 := { stood := { row := metreLayoutRow, standIns := [], harness := (true, "cd6c7c2771b52cc5b6f81d578e2e327506292b60c7bcc8e9551ac29814aba228"), looks := false }, kinds := [], alts := [], laidByText := true, laidKinds := [.data, .data, .data], laidTests := true, laidLooks := .later }
def MetreLayoutCardSaid : Prop := Claim7.holds Tryd.pinned (.plain (OpenSpec.ofChange metreLayoutSpec)) metreLayoutCard

/-- THE TIED CARD OF 'ancepslaw22.MetreMade'. -/
def metreMadeCard : Claim7 := { stood := { row := metreMadeRow, standIns := [], harness := (true, "cd6c7c2771b52cc5b6f81d578e2e327506292b60c7bcc8e9551ac29814aba228"), looks := false }, kinds := [], alts := [], laidByText := true, laidKinds := [.data, .data, .data], laidTests := true, laidLooks := .later }
def MetreMadeCardSaid : Prop := Claim7.holds Tryd.pinned (.plain (OpenSpec.ofChange metreMadeSpec)) metreMadeCard

/-- THE TIED CARD OF 'ancepslaw22.MetreFormats'. -/
def metreFormatsCard : Claim7 := { stood := { row := metreFormatsRow, standIns := [], harness := (true, "cd6c7c2771b52cc5b6f81d578e2e327506292b60c7bcc8e9551ac29814aba228"), looks := false }, kinds := [], alts := [], laidByText := true, laidKinds := [.data, .data, .data], laidTests := true, laidLooks := .later }
def MetreFormatsCardSaid : Prop := Claim7.holds Tryd.pinned (.plain (OpenSpec.ofChange metreFormatsSpec)) metreFormatsCard

/-- THE TIED CARD OF 'ancepslaw22.MetreSame'. -/
def metreSameCard : Claim7 := { stood := { row := metreSameRow, standIns := [], harness := (true, "cd6c7c2771b52cc5b6f81d578e2e327506292b60c7bcc8e9551ac29814aba228"), looks := false }, kinds := [], alts := [], laidByText := true, laidKinds := [.data, .data, .data], laidTests := true, laidLooks := .later }
def MetreSameCardSaid : Prop := Claim7.holds Tryd.pinned (.plain (OpenSpec.ofChange metreSameSpec)) metreSameCard

/-- THE TIED CARD OF 'ancepslaw22.MetreSizes'. -/
def metreSizesCard : Claim7 := { stood := { row := metreSizesRow, standIns := [], harness := (true, "cd6c7c2771b52cc5b6f81d578e2e327506292b60c7bcc8e9551ac29814aba228"), looks := false }, kinds := [], alts := [], laidByText := true, laidKinds := [.data, .data, .data], laidTests := true, laidLooks := .later }
def MetreSizesCardSaid : Prop := Claim7.holds Tryd.pinned (.plain (OpenSpec.ofChange metreSizesSpec)) metreSizesCard

/-- THE SECOND FORM's CARD OF 'ancepslaw22.MetreParsesBody'. -/
def metreParsesBodyUptoCard : Claim7 := { stood := { row := metreParsesBodyUptoRow, standIns := [], harness := (true, "cd6c7c2771b52cc5b6f81d578e2e327506292b60c7bcc8e9551ac29814aba228"), looks := false }, kinds := [], alts := [], laidByText := true, laidKinds := [.data, .data, .data], laidTests := true, laidLooks := .later }
def MetreParsesBodyUptoCardSaid : Prop := Claim7.holds Tryd.pinned (.plain (OpenSpec.upto metreParsesBodySpec)) metreParsesBodyUptoCard

/-- THE SECOND FORM's CARD OF 'ancepslaw22.MetreLayout'. -/
def metreLayoutUptoCard : Claim7 := { stood := { row := metreLayoutUptoRow, standIns := [], harness := (true, "cd6c7c2771b52cc5b6f81d578e2e327506292b60c7bcc8e9551ac29814aba228"), looks := false }, kinds := [], alts := [], laidByText := true, laidKinds := [.data, .data, .data], laidTests := true, laidLooks := .later }
def MetreLayoutUptoCardSaid : Prop := Claim7.holds Tryd.pinned (.plain (OpenSpec.upto metreLayoutSpec)) metreLayoutUptoCard

/-- THE SECOND FORM's CARD OF 'ancepslaw22.MetreMade'. -/
def metreMadeUptoCard : Claim7 := { stood := { row := metreMadeUptoRow, standIns := [], harness := (true, "cd6c7c2771b52cc5b6f81d578e2e327506292b60c7bcc8e9551ac29814aba228"), looks := false }, kinds := [], alts := [], laidByText := true, laidKinds := [.data, .data, .data], laidTests := true, laidLooks := .later }
def MetreMadeUptoCardSaid : Prop := Claim7.holds Tryd.pinned (.plain (OpenSpec.upto metreMadeSpec)) metreMadeUptoCard

/-- THE SECOND FORM's CARD OF 'ancepslaw22.MetreFormats'. -/
def metreFormatsUptoCard : Claim7 := { stood := { row := metreFormatsUptoRow, standIns := [], harness := (true, "cd6c7c2771b52cc5b6f81d578e2e327506292b60c7bcc8e9551ac29814aba228"), looks := false }, kinds := [], alts := [], laidByText := true, laidKinds := [.data, .data, .data], laidTests := true, laidLooks := .later }
def MetreFormatsUptoCardSaid : Prop := Claim7.holds Tryd.pinned (.plain (OpenSpec.upto metreFormatsSpec)) metreFormatsUptoCard

/-- THE SECOND FORM's CARD OF 'ancepslaw22.MetreSame'. -/
def metreSameUptoCard : Claim7 := { stood := { row := metreSameUptoRow, standIns := [], harness := (true, "cd6c7c2771b52cc5b6f81d578e2e327506292b60c7bcc8e9551ac29814aba228"), looks := false }, kinds := [], alts := [], laidByText := true, laidKinds := [.data, .data, .data], laidTests := true, laidLooks := .later }
def MetreSameUptoCardSaid : Prop := Claim7.holds Tryd.pinned (.plain (OpenSpec.upto metreSameSpec)) metreSameUptoCard

/-- THE SECOND FORM's CARD OF 'ancepslaw22.MetreSizes'. -/
def metreSizesUptoCard : Claim7 := { stood := { row := metreSizesUptoRow, standIns := [], harness := (true, "cd6c7c2771b52cc5b6f81d578e2e327506292b60c7bcc8e9551ac29814aba228"), looks := false }, kinds := [], alts := [], laidByText := true, laidKinds := [.data, .data, .data], laidTests := true, laidLooks := .later }
def MetreSizesUptoCardSaid : Prop := Claim7.holds Tryd.pinned (.plain (OpenSpec.upto metreSizesSpec)) metreSizesUptoCard
end Rows
end Go.Proofs.YtmffocankommaaaDoor
