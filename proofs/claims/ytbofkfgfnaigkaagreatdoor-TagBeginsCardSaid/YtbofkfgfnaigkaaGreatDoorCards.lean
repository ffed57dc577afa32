/-
  DERIVED. GIVEN WITH THE SEED: THE CARDS: each row of YtbofkfgfnaigkaaGreatDoorRows.lean that lists a variable, with what it lists TIED to the program's text (the seventh form; the later family's looks); each row that meets fmt, with fmt's text TOLD by the authors' own Lean function (tested against real Go, not proved from fmt's source: count such statements apart). THE CARD IS WHAT COUNTS. Prove the row's statement (the work); the ties are given (YtbofkfgfnaigkaaGreatDoorTie.lean); close each card by the builder's one call (the guide's Derived/Test/ToyasCard.lean, 'card_holds'). Laid BY PROGRAM, IN A SANDBOX (cutbox-door.mjs). By AI agents, Wed Nov 11 2026. No macro, syntax, notation, axiom, sorry.
-/
import Derived.Test.YtbofkfgfnaigkaaGreatDoorRows
import GoSem.ClaimSeven
namespace Go.Proofs.YtbofkfgfnaigkaaGreatDoor
namespace Rows

/-- THE TIED CARD OF 'avouchlaw14.TagBegins'. -/
def tagBeginsCard : Claim7 := { stood := { row := tagBeginsRow, standIns := [], harness := (true, "06aac7357faa6b5ddfe907d727d00737a875ce643022fa3330f3d1db0a21f8dc"), looks := false }, kinds := [], alts := [], laidByText := true, laidKinds := [.data], laidTests := true, laidLooks := .later }
def TagBeginsCardSaid : Prop := Claim7.holds Tryz.pinned (.plain (OpenSpec.ofChange tagBeginsSpec)) tagBeginsCard

/-- THE SECOND FORM's CARD OF 'avouchlaw14.TagBegins'. -/
def tagBeginsUptoCard : Claim7 := { stood := { row := tagBeginsUptoRow, standIns := [], harness := (true, "06aac7357faa6b5ddfe907d727d00737a875ce643022fa3330f3d1db0a21f8dc"), looks := false }, kinds := [], alts := [], laidByText := true, laidKinds := [.data], laidTests := true, laidLooks := .later }
def TagBeginsUptoCardSaid : Prop := Claim7.holds Tryz.pinned (.plain (OpenSpec.upto tagBeginsSpec)) tagBeginsUptoCard
end Rows
end Go.Proofs.YtbofkfgfnaigkaaGreatDoor
