/-
  DERIVED. GIVEN WITH THE SEED: THE CARDS: each row of YtjelffbnkmbgaaaDoorRows.lean that lists a variable, with what it lists TIED to the program's text (the seventh form; the later family's looks); each row that meets fmt, with fmt's text TOLD by the authors' own Lean function (tested against real Go, not proved from fmt's source: count such statements apart). THE CARD IS WHAT COUNTS. Prove the row's statement (the work); the ties are given (YtjelffbnkmbgaaaDoorTie.lean); close each card by the builder's one call (the guide's Derived/Test/ToyasCard.lean, 'card_holds'). Laid BY PROGRAM, IN A SANDBOX (cutbox-door.mjs). By AI agents, Wed Nov 11 2026. No macro, syntax, notation, axiom, sorry.
-/
import Derived.Test.YtjelffbnkmbgaaaDoorRows
import GoSem.ClaimSeven
namespace Go.Proofs.YtjelffbnkmbgaaaDoor
namespace Rows

/-- THE TIED CARD OF 'dspcompilerlaw31.LimitcycleIsClosed'. -/
def limitcycleIsClosedCard : Claim7 := { stood := { row := limitcycleIsClosedRow, standIns := [], harness := (true, "7e8401cdfd05ea4fbc13d4ae5e5e6dbe3fefa9305e702102e80934a93b239383"), looks := false }, kinds := [], alts := [], laidByText := true, laidKinds := [.data, .data, .data], laidTests := true, laidLooks := .later }
def LimitcycleIsClosedCardSaid : Prop := Claim7.holds Tryd.pinned (.plain (OpenSpec.ofChange limitcycleIsClosedSpec)) limitcycleIsClosedCard

/-- THE TIED CARD OF 'dspcompilerlaw31.LimitcycleIsComplete'. -/
def limitcycleIsCompleteCard : Claim7 := { stood := { row := limitcycleIsCompleteRow, standIns := [], harness := (true, "7e8401cdfd05ea4fbc13d4ae5e5e6dbe3fefa9305e702102e80934a93b239383"), looks := false }, kinds := [], alts := [], laidByText := true, laidKinds := [.data, .data, .data], laidTests := true, laidLooks := .later }
def LimitcycleIsCompleteCardSaid : Prop := Claim7.holds Tryd.pinned (.plain (OpenSpec.ofChange limitcycleIsCompleteSpec)) limitcycleIsCompleteCard

/-- THE TIED CARD OF 'dspcompilerlaw31.LimitcycleTruncates'. -/
def limitcycleTruncatesCard : Claim7 := { stood := { row := limitcycleTruncatesRow, standIns := [], harness := (true, "7e8401cdfd05ea4fbc13d4ae5e5e6dbe3fefa9305e702102e80934a93b239383"), looks := false }, kinds := [], alts := [], laidByText := true, laidKinds := [.data, .data, .data], laidTests := true, laidLooks := .later }
def LimitcycleTruncatesCardSaid : Prop := Claim7.holds Tryd.pinned (.plain (OpenSpec.ofChange limitcycleTruncatesSpec)) limitcycleTruncatesCard

/-- THE SECOND FORM's CARD OF 'dspcompilerlaw31.LimitcycleIsClosed'. -/
def limitcycleIsClosedUptoCard : Claim7 := { stood := { row := limitcycleIsClosedUptoRow, standIns := [], harness := (true, "7e8401cdfd05ea4fbc13d4ae5e5e6dbe3fefa9305e702102e80934a93b239383"), looks := false }, kinds := [], alts := [], laidByText := true, laidKinds := [.data, .data, .data], laidTests := true, laidLooks := .later }
def LimitcycleIsClosedUptoCardSaid : Prop := Claim7.holds Tryd.pinned (.plain (OpenSpec.upto limitcycleIsClosedSpec)) limitcycleIsClosedUptoCard

/-- THE SECOND FORM's CARD OF 'dspcompilerlaw31.LimitcycleIsComplete'. -/
def limitcycleIsCompleteUptoCard : Claim7 := { stood := { row := limitcycleIsCompleteUptoRow, standIns := [], harness := (true, "7e8401cdfd05ea4fbc13d4ae5e5e6dbe3fefa9305e702102e80934a93b239383"), looks := false }, kinds := [], alts := [], laidByText := true, laidKinds := [.data, .data, .data], laidTests := true, laidLooks := .later }
def LimitcycleIsCompleteUptoCardSaid : Prop := Claim7.holds Tryd.pinned (.plain (OpenSpec.upto limitcycleIsCompleteSpec)) limitcycleIsCompleteUptoCard

/-- THE SECOND FORM's CARD OF 'dspcompilerlaw31.LimitcycleTruncates'. -/
def limitcycleTruncatesUptoCard : Claim7 := { stood := { row := limitcycleTruncatesUptoRow, standIns := [], harness := (true, "7e8401cdfd05ea4fbc13d4ae5e5e6dbe3fefa9305e702102e80934a93b239383"), looks := false }, kinds := [], alts := [], laidByText := true, laidKinds := [.data, .data, .data], laidTests := true, laidLooks := .later }
def LimitcycleTruncatesUptoCardSaid : Prop := Claim7.holds Tryd.pinned (.plain (OpenSpec.upto limitcycleTruncatesSpec)) limitcycleTruncatesUptoCard
end Rows
end Go.Proofs.YtjelffbnkmbgaaaDoor
