/-
  DERIVED. GIVEN WITH THE SEED: THE CARDS: each row of YtafkceblllhheaaGreatDoorRows.lean that lists a variable, with what it lists TIED to the program's text (the seventh form; the later family's looks); each row that meets fmt, with fmt's text TOLD by the authors' own Lean function (tested against real Go, not proved from fmt's source: count such statements apart). THE CARD IS WHAT COUNTS. Prove the row's statement (the work); the ties are given (YtafkceblllhheaaGreatDoorTie.lean); close each card by the builder's one call (the guide's Derived/Test/ToyasCard.lean, 'card_holds'). Laid BY PROGRAM, IN A SANDBOX (cutbox-door.mjs). By AI agents, Wed Nov 11 2026. No macro, syntax, notation, axiom, sorry.
-/
import Derived.Test.YtafkceblllhheaaGreatDoorRows
import GoSem.ClaimSeven
namespace Go.Proofs.YtafkceblllhheaaGreatDoor
namespace Rows

/-- THE TIED CARD OF 'avouchlaw18.TranscriptGuards'. -/
def transcriptGuardsCard : Claim7 := { stood := { row := transcriptGuardsRow, standIns := [], harness := (true, "5cdae95c36ba2da79ccc0b150a168b5750cc7a7ac611029f93d4d6c14ff46b21"), looks := false }, kinds := [], alts := [], laidByText := true, laidKinds := [.data], laidTests := true, laidLooks := .later }
def TranscriptGuardsCardSaid : Prop := Claim7.holds Tryz.pinned (.plain (OpenSpec.ofChange transcriptGuardsSpec)) transcriptGuardsCard

/-- THE TIED CARD OF 'avouchlaw18.TranscriptCounts'. -/
def transcriptCountsCard : Claim7 := { stood := { row := transcriptCountsRow, standIns := [], harness := (true, "5cdae95c36ba2da79ccc0b150a168b5750cc7a7ac611029f93d4d6c14ff46b21"), looks := false }, kinds := [], alts := [], laidByText := true, laidKinds := [.data], laidTests := true, laidLooks := .later }
def TranscriptCountsCardSaid : Prop := Claim7.holds Tryz.pinned (.plain (OpenSpec.ofChange transcriptCountsSpec)) transcriptCountsCard

/-- THE TIED CARD OF 'avouchlaw18.TranscriptLayers'. -/
def transcriptLayersCard : Claim7 := { stood := { row := transcriptLayersRow, standIns := [], harness := (true, "5cdae95c36ba2da79ccc0b150a168b5750cc7a7ac611029f93d4d6c14ff46b21"), looks := false }, kinds := [], alts := [], laidByText := true, laidKinds := [.data], laidTests := true, laidLooks := .later }
def TranscriptLayersCardSaid : Prop := Claim7.holds Tryz.pinned (.plain (OpenSpec.ofChange transcriptLayersSpec)) transcriptLayersCard

/-- THE TIED CARD OF 'avouchlaw18.TranscriptSticks'. -/
def transcriptSticksCard : Claim7 := { stood := { row := transcriptSticksRow, standIns := [], harness := (true, "5cdae95c36ba2da79ccc0b150a168b5750cc7a7ac611029f93d4d6c14ff46b21"), looks := false }, kinds := [], alts := [], laidByText := true, laidKinds := [.data], laidTests := true, laidLooks := .later }
def TranscriptSticksCardSaid : Prop := Claim7.holds Tryz.pinned (.plain (OpenSpec.ofChange transcriptSticksSpec)) transcriptSticksCard

/-- THE TIED CARD OF 'avouchlaw18.TranscriptBytes'. -/
def transcriptBytesCard : Claim7 := { stood := { row := transcriptBytesRow, standIns := [], harness := (true, "5cdae95c36ba2da79ccc0b150a168b5750cc7a7ac611029f93d4d6c14ff46b21"), looks := false }, kinds := [], alts := [], laidByText := true, laidKinds := [.data], laidTests := true, laidLooks := .later }
def TranscriptBytesCardSaid : Prop := Claim7.holds Tryz.pinned (.plain (OpenSpec.ofChange transcriptBytesSpec)) transcriptBytesCard

/-- THE TIED CARD OF 'avouchlaw18.TranscriptFields'. -/
def transcriptFieldsCard : Claim7 := { stood := { row := transcriptFieldsRow, standIns := [], harness := (true, "5cdae95c36ba2da79ccc0b150a168b5750cc7a7ac611029f93d4d6c14ff46b21"), looks := false }, kinds := [], alts := [], laidByText := true, laidKinds := [.data], laidTests := true, laidLooks := .later }
def TranscriptFieldsCardSaid : Prop := Claim7.holds Tryz.pinned (.plain (OpenSpec.ofChange transcriptFieldsSpec)) transcriptFieldsCard

/-- THE SECOND FORM's CARD OF 'avouchlaw18.TranscriptGuards'. -/
def transcriptGuardsUptoCard : Claim7 := { stood := { row := transcriptGuardsUptoRow, standIns := [], harness := (true, "5cdae95c36ba2da79ccc0b150a168b5750cc7a7ac611029f93d4d6c14ff46b21"), looks := false }, kinds := [], alts := [], laidByText := true, laidKinds := [.data], laidTests := true, laidLooks := .later }
def TranscriptGuardsUptoCardSaid : Prop := Claim7.holds Tryz.pinned (.plain (OpenSpec.upto transcriptGuardsSpec)) transcriptGuardsUptoCard

/-- THE SECOND FORM's CARD OF 'avouchlaw18.TranscriptCounts'. -/
def transcriptCountsUptoCard : Claim7 := { stood := { row := transcriptCountsUptoRow, standIns := [], harness := (true, "5cdae95c36ba2da79ccc0b150a168b5750cc7a7ac611029f93d4d6c14ff46b21"), looks := false }, kinds := [], alts := [], laidByText := true, laidKinds := [.data], laidTests := true, laidLooks := .later }
def TranscriptCountsUptoCardSaid : Prop := Claim7.holds Tryz.pinned (.plain (OpenSpec.upto transcriptCountsSpec)) transcriptCountsUptoCard

/-- THE SECOND FORM's CARD OF 'avouchlaw18.TranscriptLayers'. -/
def transcriptLayersUptoCard : Claim7 := { stood := { row := transcriptLayersUptoRow, standIns := [], harness := (true, "5cdae95c36ba2da79ccc0b150a168b5750cc7a7ac611029f93d4d6c14ff46b21"), looks := false }, kinds := [], alts := [], laidByText := true, laidKinds := [.data], laidTests := true, laidLooks := .later }
def TranscriptLayersUptoCardSaid : Prop := Claim7.holds Tryz.pinned (.plain (OpenSpec.upto transcriptLayersSpec)) transcriptLayersUptoCard

/-- THE SECOND FORM's CARD OF 'avouchlaw18.TranscriptSticks'. -/
def transcriptSticksUptoCard : Claim7 := { stood := { row := transcriptSticksUptoRow, standIns := [], harness := (true, "5cdae95c36ba2da79ccc0b150a168b5750cc7a7ac611029f93d4d6c14ff46b21"), looks := false }, kinds := [], alts := [], laidByText := true, laidKinds := [.data], laidTests := true, laidLooks := .later }
def TranscriptSticksUptoCardSaid : Prop := Claim7.holds Tryz.pinned (.plain (OpenSpec.upto transcriptSticksSpec)) transcriptSticksUptoCard

/-- THE SECOND FORM's CARD OF 'avouchlaw18.TranscriptBytes'. -/
def transcriptBytesUptoCard : Claim7 := { stood := { row := transcriptBytesUptoRow, standIns := [], harness := (true, "5cdae95c36ba2da79ccc0b150a168b5750cc7a7ac611029f93d4d6c14ff46b21"), looks := false }, kinds := [], alts := [], laidByText := true, laidKinds := [.data], laidTests := true, laidLooks := .later }
def TranscriptBytesUptoCardSaid : Prop := Claim7.holds Tryz.pinned (.plain (OpenSpec.upto transcriptBytesSpec)) transcriptBytesUptoCard

/-- THE SECOND FORM's CARD OF 'avouchlaw18.TranscriptFields'. -/
def transcriptFieldsUptoCard : Claim7 := { stood := { row := transcriptFieldsUptoRow, standIns := [], harness := (true, "5cdae95c36ba2da79ccc0b150a168b5750cc7a7ac611029f93d4d6c14ff46b21"), looks := false }, kinds := [], alts := [], laidByText := true, laidKinds := [.data], laidTests := true, laidLooks := .later }
def TranscriptFieldsUptoCardSaid : Prop := Claim7.holds Tryz.pinned (.plain (OpenSpec.upto transcriptFieldsSpec)) transcriptFieldsUptoCard
end Rows
end Go.Proofs.YtafkceblllhheaaGreatDoor
