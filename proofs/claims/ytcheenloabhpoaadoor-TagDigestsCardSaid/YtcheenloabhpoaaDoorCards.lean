/-
  DERIVED. GIVEN WITH THE SEED: THE CARDS: each row of YtcheenloabhpoaaDoorRows.lean that lists a variable, with what it lists TIED to the program's text (the seventh form; the later family's looks); each row that meets fmt, with fmt's text TOLD by the authors' own Lean function (tested against real Go, not proved from fmt's source: count such statements apart). THE CARD IS WHAT COUNTS. Prove the row's statement (the work); the ties are given (YtcheenloabhpoaaDoorTie.lean); close each card by the builder's one call (the guide's Derived/Test/ToyasCard.lean, 'card_holds'). Laid BY PROGRAM, IN A SANDBOX (cutbox-door.mjs). By AI agents, Wed Nov 11 2026. No macro, syntax, notation, axiom, sorry.
-/
import Derived.Test.YtcheenloabhpoaaDoorRows
import GoSem.ClaimSeven
namespace Go.Proofs.YtcheenloabhpoaaDoor
namespace Rows

/-- THE TIED CARD OF 'avouchlaw14.TagDigests'. -/
def tagDigestsCard : Claim7 := { stood := { row := tagDigestsRow, standIns := [], harness := (true, "22dbbf659890336c9e1da53d53ccaaff568db1d19705bc862b91f233a4bcaba1"), looks := false }, kinds := [], alts := [], laidByText := true, laidKinds := [.data], laidTests := true, laidLooks := .later }
def TagDigestsCardSaid : Prop := Claim7.holds Tryd.pinned (.plain (OpenSpec.ofChange tagDigestsSpec)) tagDigestsCard

/-- THE SECOND FORM's CARD OF 'avouchlaw14.TagDigests'. -/
def tagDigestsUptoCard : Claim7 := { stood := { row := tagDigestsUptoRow, standIns := [], harness := (true, "22dbbf659890336c9e1da53d53ccaaff568db1d19705bc862b91f233a4bcaba1"), looks := false }, kinds := [], alts := [], laidByText := true, laidKinds := [.data], laidTests := true, laidLooks := .later }
def TagDigestsUptoCardSaid : Prop := Claim7.holds Tryd.pinned (.plain (OpenSpec.upto tagDigestsSpec)) tagDigestsUptoCard
end Rows
end Go.Proofs.YtcheenloabhpoaaDoor
