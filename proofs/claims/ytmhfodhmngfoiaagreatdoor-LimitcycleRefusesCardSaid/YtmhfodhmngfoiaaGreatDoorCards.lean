/-
  DERIVED. GIVEN WITH THE SEED: THE CARDS: each row of YtmhfodhmngfoiaaGreatDoorRows.lean that lists a variable, with what it lists TIED to the program's text (the seventh form; the later family's looks); each row that meets fmt, with fmt's text TOLD by the authors' own Lean function (tested against real Go, not proved from fmt's source: count such statements apart). THE CARD IS WHAT COUNTS. Prove the row's statement (the work); the ties are given (YtmhfodhmngfoiaaGreatDoorTie.lean); close each card by the builder's one call (the guide's Derived/Test/ToyasCard.lean, 'card_holds'). Laid BY PROGRAM, IN A SANDBOX (cutbox-door.mjs). By AI agents, Wed Nov 11 2026. No macro, syntax, notation, axiom, sorry.
-/
import Derived.Test.YtmhfodhmngfoiaaGreatDoorRows
import GoSem.ClaimSeven
namespace Go.Proofs.YtmhfodhmngfoiaaGreatDoor
namespace Rows

/-- THE TIED CARD OF 'dspcompilerlaw31.LimitcycleRefuses'. -/
def limitcycleRefusesCard : Claim7 := { stood := { row := limitcycleRefusesRow, standIns := [], harness := (true, "072787e18f4f94d111ddc589992f60c9528ad8ce7acb38e4df1a97548f81e096"), looks := false }, kinds := [], alts := [], laidByText := true, laidKinds := [.data, .data, .data], laidTests := true, laidLooks := .later }
def LimitcycleRefusesCardSaid : Prop := Claim7.holds Tryz.pinned (.plain (OpenSpec.ofChange limitcycleRefusesSpec)) limitcycleRefusesCard

/-- THE TIED CARD OF 'dspcompilerlaw31.LimitcycleFinds'. -/
def limitcycleFindsCard : Claim7 := { stood := { row := limitcycleFindsRow, standIns := [], harness := (true, "072787e18f4f94d111ddc589992f60c9528ad8ce7acb38e4df1a97548f81e096"), looks := false }, kinds := [], alts := [], laidByText := true, laidKinds := [.data, .data, .data], laidTests := true, laidLooks := .later }
def LimitcycleFindsCardSaid : Prop := Claim7.holds Tryz.pinned (.plain (OpenSpec.ofChange limitcycleFindsSpec)) limitcycleFindsCard

/-- THE TIED CARD OF 'dspcompilerlaw31.LimitcycleLiesInBox'. -/
def limitcycleLiesInBoxCard : Claim7 := { stood := { row := limitcycleLiesInBoxRow, standIns := [], harness := (true, "072787e18f4f94d111ddc589992f60c9528ad8ce7acb38e4df1a97548f81e096"), looks := false }, kinds := [], alts := [], laidByText := true, laidKinds := [.data, .data, .data], laidTests := true, laidLooks := .later }
def LimitcycleLiesInBoxCardSaid : Prop := Claim7.holds Tryz.pinned (.plain (OpenSpec.ofChange limitcycleLiesInBoxSpec)) limitcycleLiesInBoxCard

/-- THE TIED CARD OF 'dspcompilerlaw31.LimitcycleComesToRest'. -/
def limitcycleComesToRestCard : Claim7 := { stood := { row := limitcycleComesToRestRow, standIns := [], harness := (true, "072787e18f4f94d111ddc589992f60c9528ad8ce7acb38e4df1a97548f81e096"), looks := false }, kinds := [], alts := [], laidByText := true, laidKinds := [.data, .data, .data], laidTests := true, laidLooks := .later }
def LimitcycleComesToRestCardSaid : Prop := Claim7.holds Tryz.pinned (.plain (OpenSpec.ofChange limitcycleComesToRestSpec)) limitcycleComesToRestCard

/-- THE SECOND FORM's CARD OF 'dspcompilerlaw31.LimitcycleRefuses'. -/
def limitcycleRefusesUptoCard : Claim7 := { stood := { row := limitcycleRefusesUptoRow, standIns := [], harness := (true, "072787e18f4f94d111ddc589992f60c9528ad8ce7acb38e4df1a97548f81e096"), looks := false }, kinds := [], alts := [], laidByText := true, laidKinds := [.data, .data, .data], laidTests := true, laidLooks := .later }
def LimitcycleRefusesUptoCardSaid : Prop := Claim7.holds Tryz.pinned (.plain (OpenSpec.upto limitcycleRefusesSpec)) limitcycleRefusesUptoCard

/-- THE SECOND FORM's CARD OF 'dspcompilerlaw31.LimitcycleFinds'. -/
def limitcycleFindsUptoCard : Claim7 := { stood := { row := limitcycleFindsUptoRow, standIns := [], harness := (true, "072787e18f4f94d111ddc589992f60c9528ad8ce7acb38e4df1a97548f81e096"), looks := false }, kinds := [], alts := [], laidByText := true, laidKinds := [.data, .data, .data], laidTests := true, laidLooks := .later }
def LimitcycleFindsUptoCardSaid : Prop := Claim7.holds Tryz.pinned (.plain (OpenSpec.upto limitcycleFindsSpec)) limitcycleFindsUptoCard

/-- THE SECOND FORM's CARD OF 'dspcompilerlaw31.LimitcycleLiesInBox'. -/
def limitcycleLiesInBoxUptoCard : Claim7 := { stood := { row := limitcycleLiesInBoxUptoRow, standIns := [], harness := (true, "072787e18f4f94d111ddc589992f60c9528ad8ce7acb38e4df1a97548f81e096"), looks := false }, kinds := [], alts := [], laidByText := true, laidKinds := [.data, .data, .data], laidTests := true, laidLooks := .later }
def LimitcycleLiesInBoxUptoCardSaid : Prop := Claim7.holds Tryz.pinned (.plain (OpenSpec.upto limitcycleLiesInBoxSpec)) limitcycleLiesInBoxUptoCard

/-- THE SECOND FORM's CARD OF 'dspcompilerlaw31.LimitcycleComesToRest'. -/
def limitcycleComesToRestUptoCard : Claim7 := { stood := { row := limitcycleComesToRestUptoRow, standIns := [], harness := (true, "072787e18f4f94d111ddc589992f60c9528ad8ce7acb38e4df1a97548f81e096"), looks := false }, kinds := [], alts := [], laidByText := true, laidKinds := [.data, .data, .data], laidTests := true, laidLooks := .later }
def LimitcycleComesToRestUptoCardSaid : Prop := Claim7.holds Tryz.pinned (.plain (OpenSpec.upto limitcycleComesToRestSpec)) limitcycleComesToRestUptoCard
end Rows
end Go.Proofs.YtmhfodhmngfoiaaGreatDoor
