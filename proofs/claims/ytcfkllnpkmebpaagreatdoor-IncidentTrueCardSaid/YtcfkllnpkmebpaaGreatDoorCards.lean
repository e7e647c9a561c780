/-
  DERIVED. GIVEN WITH THE SEED: THE CARDS: each row of YtcfkllnpkmebpaaGreatDoorRows.lean that lists a variable, with what it lists TIED to the program's text (the seventh form; the later family's looks); each row that meets fmt, with fmt's text TOLD by the authors' own Lean function (tested against real Go, not proved from fmt's source: count such statements apart). THE CARD IS WHAT COUNTS. Prove the row's statement (the work); the ties are given (YtcfkllnpkmebpaaGreatDoorTie.lean); close each card by the builder's one call (the guide's Derived/Test/ToyasCard.lean, 'card_holds'). Laid BY PROGRAM, IN A SANDBOX (cutbox-door.mjs). By AI agents, Wed Nov 11 2026. No macro, syntax, notation, axiom, sorry.
-/
import Derived.Test.YtcfkllnpkmebpaaGreatDoorRows
import GoSem.ClaimSeven
namespace Go.Proofs.YtcfkllnpkmebpaaGreatDoor
namespace Rows

/-- THE TIED CARD OF 'drydocklaw44.IncidentFormats'. -/
def incidentFormatsCard : Claim7 := { stood := { row := incidentFormatsRow, standIns := [], harness := (true, "f71a308326aa10e488d86df6d87f0dfbffc3fb80c4fd71eff46999023137051e"), looks := false }, kinds := [], alts := [], laidByText := true, laidKinds := [.data, .data, .data], laidTests := true, laidLooks := .later }
def IncidentFormatsCardSaid : Prop := Claim7.holds Tryz.pinned (.plain (OpenSpec.ofChange incidentFormatsSpec)) incidentFormatsCard

/-- THE TIED CARD OF 'drydocklaw44.IncidentParses'. -/
def incidentParsesCard : Claim7 := { stood := { row := incidentParsesRow, standIns := [], harness := (true, "f71a308326aa10e488d86df6d87f0dfbffc3fb80c4fd71eff46999023137051e"), looks := false }, kinds := [], alts := [], laidByText := true, laidKinds := [.data, .data, .data], laidTests := true, laidLooks := .later }
def IncidentParsesCardSaid : Prop := Claim7.holds Tryz.pinned (.plain (OpenSpec.ofChange incidentParsesSpec)) incidentParsesCard

/-- THE TIED CARD OF 'drydocklaw44.IncidentRescues'. -/
def incidentRescuesCard : Claim7 := { stood := { row := incidentRescuesRow, standIns := [], harness := (true, "f71a308326aa10e488d86df6d87f0dfbffc3fb80c4fd71eff46999023137051e"), looks := false }, kinds := [], alts := [], laidByText := true, laidKinds := [.data, .data, .data], laidTests := true, laidLooks := .later }
def IncidentRescuesCardSaid : Prop := Claim7.holds Tryz.pinned (.plain (OpenSpec.ofChange incidentRescuesSpec)) incidentRescuesCard

/-- THE TIED CARD OF 'drydocklaw44.IncidentNeeds'. -/
def incidentNeedsCard : Claim7 := { stood := { row := incidentNeedsRow, standIns := [], harness := (true, "f71a308326aa10e488d86df6d87f0dfbffc3fb80c4fd71eff46999023137051e"), looks := false }, kinds := [], alts := [], laidByText := true, laidKinds := [.data, .data, .data], laidTests := true, laidLooks := .later }
def IncidentNeedsCardSaid : Prop := Claim7.holds Tryz.pinned (.plain (OpenSpec.ofChange incidentNeedsSpec)) incidentNeedsCard

/-- THE TIED CARD OF 'drydocklaw44.IncidentExplains'. -/
def incidentExplainsCard : Claim7 := { stood := { row := incidentExplainsRow, standIns := [], harness := (true, "f71a308326aa10e488d86df6d87f0dfbffc3fb80c4fd71eff46999023137051e"), looks := false }, kinds := [], alts := [], laidByText := true, laidKinds := [.data, .data, .data], laidTests := true, laidLooks := .later }
def IncidentExplainsCardSaid : Prop := Claim7.holds Tryz.pinned (.plain (OpenSpec.ofChange incidentExplainsSpec)) incidentExplainsCard

/-- THE TIED CARD OF 'drydocklaw44.IncidentBack'. -/
def incidentBackCard : Claim7 := { stood := { row := incidentBackRow, standIns := [], harness := (true, "f71a308326aa10e488d86df6d87f0dfbffc3fb80c4fd71eff46999023137051e"), looks := false }, kinds := [], alts := [], laidByText := true, laidKinds := [.data, .data, .data], laidTests := true, laidLooks := .later }
def IncidentBackCardSaid : Prop := Claim7.holds Tryz.pinned (.plain (OpenSpec.ofChange incidentBackSpec)) incidentBackCard

/-- THE TIED CARD OF 'drydocklaw44.IncidentTrue'. -/
def incidentTrueCard : Claim7 := { stood := { row := incidentTrueRow, standIns := [], harness := (true, "f71a308326aa10e488d86df6d87f0dfbffc3fb80c4fd71eff46999023137051e"), looks := false }, kinds := [], alts := [], laidByText := true, laidKinds := [.data, .data, .data], laidTests := true, laidLooks := .later }
def IncidentTrueCardSaid : Prop := Claim7.holds Tryz.pinned (.plain (OpenSpec.ofChange incidentTrueSpec)) incidentTrueCard

/-- THE SECOND FORM's CARD OF 'drydocklaw44.IncidentFormats'. -/
def incidentFormatsUptoCard : Claim7 := { stood := { row := incidentFormatsUptoRow, standIns := [], harness := (true, "f71a308326aa10e488d86df6d87f0dfbffc3fb80c4fd71eff46999023137051e"), looks := false }, kinds := [], alts := [], laidByText := true, laidKinds := [.data, .data, .data], laidTests := true, laidLooks := .later }
def IncidentFormatsUptoCardSaid : Prop := Claim7.holds Tryz.pinned (.plain (OpenSpec.upto incidentFormatsSpec)) incidentFormatsUptoCard

/-- THE SECOND FORM's CARD OF 'drydocklaw44.IncidentParses'. -/
def incidentParsesUptoCard : Claim7 := { stood := { row := incidentParsesUptoRow, standIns := [], harness := (true, "f71a308326aa10e488d86df6d87f0dfbffc3fb80c4fd71eff46999023137051e"), looks := false }, kinds := [], alts := [], laidByText := true, laidKinds := [.data, .data, .data], laidTests := true, laidLooks := .later }
def IncidentParsesUptoCardSaid : Prop := Claim7.holds Tryz.pinned (.plain (OpenSpec.upto incidentParsesSpec)) incidentParsesUptoCard

/-- THE SECOND FORM's CARD OF 'drydocklaw44.IncidentRescues'. -/
def incidentRescuesUptoCard : Claim7 := { stood := { row := incidentRescuesUptoRow, standIns := [], harness := (true, "f71a308326aa10e488d86df6d87f0dfbffc3fb80c4fd71eff46999023137051e"), looks := false }, kinds := [], alts := [], laidByText := true, laidKinds := [.data, .data, .data], laidTests := true, laidLooks := .later }
def IncidentRescuesUptoCardSaid : Prop := Claim7.holds Tryz.pinned (.plain (OpenSpec.upto incidentRescuesSpec)) incidentRescuesUptoCard

/-- THE SECOND FORM's CARD OF 'drydocklaw44.IncidentNeeds'. -/
def incidentNeedsUptoCard : Claim7 := { stood := { row := incidentNeedsUptoRow, standIns := [], harness := (true, "f71a308326aa10e488d86df6d87f0dfbffc3fb80c4fd71eff46999023137051e"), looks := false }, kinds := [], alts := [], laidByText := true, laidKinds := [.data, .data, .data], laidTests := true, laidLooks := .later }
def IncidentNeedsUptoCardSaid : Prop := Claim7.holds Tryz.pinned (.plain (OpenSpec.upto incidentNeedsSpec)) incidentNeedsUptoCard

/-- THE SECOND FORM's CARD OF 'drydocklaw44.IncidentExplains'. -/
def incidentExplainsUptoCard : Claim7 := { stood := { row := incidentExplainsUptoRow, standIns := [], harness := (true, "f71a308326aa10e488d86df6d87f0dfbffc3fb80c4fd71eff46999023137051e"), looks := false }, kinds := [], alts := [], laidByText := true, laidKinds := [.data, .data, .data], laidTests := true, laidLooks := .later }
def IncidentExplainsUptoCardSaid : Prop := Claim7.holds Tryz.pinned (.plain (OpenSpec.upto incidentExplainsSpec)) incidentExplainsUptoCard

/-- THE SECOND FORM's CARD OF 'drydocklaw44.IncidentBack'. -/
def incidentBackUptoCard : Claim7 := { stood := { row := incidentBackUptoRow, standIns := [], harness := (true, "f71a308326aa10e488d86df6d87f0dfbffc3fb80c4fd71eff46999023137051e"), looks := false }, kinds := [], alts := [], laidByText := true, laidKinds := [.data, .data, .data], laidTests := true, laidLooks := .later }
def IncidentBackUptoCardSaid : Prop := Claim7.holds Tryz.pinned (.plain (OpenSpec.upto incidentBackSpec)) incidentBackUptoCard

/-- THE SECOND FORM's CARD OF 'drydocklaw44.IncidentTrue'. -/
def incidentTrueUptoCard : Claim7 := { stood := { row := incidentTrueUptoRow, standIns := [], harness := (true, "f71a308326aa10e488d86df6d87f0dfbffc3fb80c4fd71eff46999023137051e"), looks := false }, kinds := [], alts := [], laidByText := true, laidKinds := [.data, .data, .data], laidTests := true, laidLooks := .later }
def IncidentTrueUptoCardSaid : Prop := Claim7.holds Tryz.pinned (.plain (OpenSpec.upto incidentTrueSpec)) incidentTrueUptoCard
end Rows
end Go.Proofs.YtcfkllnpkmebpaaGreatDoor
