/-
  DERIVED. GIVEN WITH THE SEED: THE CARDS: each row of YtbookmjmhfoolaaGreatDoorRows.lean that lists a variable, with what it lists TIED to the program's text (the seventh form; the later family's looks); each row that meets fmt, with fmt's text TOLD by the authors' own Lean function (tested against real Go, not proved from fmt's source: count such statements apart). THE CARD IS WHAT COUNTS. Prove the row's statement (the work); the ties are given (YtbookmjmhfoolaaGreatDoorTie.lean); close each card by the builder's one call (the guide's Derived/Test/ToyasCard.lean, 'card_holds'). Laid BY PROGRAM, IN A SANDBOX (cutbox-door.mjs). By AI agents, Wed Nov 11 2026. No macro, syntax, notation, axiom, sorry.
-/
import Derived.Test.YtbookmjmhfoolaaGreatDoorRows
import GoSem.ClaimSeven
namespace Go.Proofs.YtbookmjmhfoolaaGreatDoor
namespace Rows

/-- THE TIED CARD OF 'avouchtop.TopSticks'. -/
def topSticksCard : Claim7 := { stood := { row := topSticksRow, standIns := [], harness := (true, "e7628a40f41ecee1889df80b5d4ad8a9c3a110d85373a5fed0e46aaf48790d1b"), looks := true }, kinds := [], alts := [], laidByText := true, laidKinds := [.data, .data, .data, .data], laidTests := true, laidLooks := .later }
def TopSticksCardSaid : Prop := Claim7.holds Tryz.pinned (.plain (OpenSpec.ofChange topSticksSpec)) topSticksCard

/-- THE TIED CARD OF 'avouchlaw19.ScriptPlays'. -/
def scriptPlaysCard : Claim7 := { stood := { row := scriptPlaysRow, standIns := [], harness := (true, "e7628a40f41ecee1889df80b5d4ad8a9c3a110d85373a5fed0e46aaf48790d1b"), looks := true }, kinds := [], alts := [], laidByText := true, laidKinds := [.data, .data, .data, .data], laidTests := true, laidLooks := .later }
def ScriptPlaysCardSaid : Prop := Claim7.holds Tryz.pinned (.plain (OpenSpec.ofChange scriptPlaysSpec)) scriptPlaysCard

/-- THE TIED CARD OF 'avouchlaw19.ScriptAgain'. -/
def scriptAgainCard : Claim7 := { stood := { row := scriptAgainRow, standIns := [], harness := (true, "e7628a40f41ecee1889df80b5d4ad8a9c3a110d85373a5fed0e46aaf48790d1b"), looks := true }, kinds := [], alts := [], laidByText := true, laidKinds := [.data, .data, .data, .data], laidTests := true, laidLooks := .later }
def ScriptAgainCardSaid : Prop := Claim7.holds Tryz.pinned (.plain (OpenSpec.ofChange scriptAgainSpec)) scriptAgainCard

/-- THE TIED CARD OF 'avouchlaw19.ScriptCalls'. -/
def scriptCallsCard : Claim7 := { stood := { row := scriptCallsRow, standIns := [], harness := (true, "e7628a40f41ecee1889df80b5d4ad8a9c3a110d85373a5fed0e46aaf48790d1b"), looks := true }, kinds := [], alts := [], laidByText := true, laidKinds := [.data, .data, .data, .data], laidTests := true, laidLooks := .later }
def ScriptCallsCardSaid : Prop := Claim7.holds Tryz.pinned (.plain (OpenSpec.ofChange scriptCallsSpec)) scriptCallsCard

/-- THE SECOND FORM's CARD OF 'avouchtop.TopSticks'. -/
def topSticksUptoCard : Claim7 := { stood := { row := topSticksUptoRow, standIns := [], harness := (true, "e7628a40f41ecee1889df80b5d4ad8a9c3a110d85373a5fed0e46aaf48790d1b"), looks := true }, kinds := [], alts := [], laidByText := true, laidKinds := [.data, .data, .data, .data], laidTests := true, laidLooks := .later }
def TopSticksUptoCardSaid : Prop := Claim7.holds Tryz.pinned (.plain (OpenSpec.upto topSticksSpec)) topSticksUptoCard

/-- THE SECOND FORM's CARD OF 'avouchlaw19.ScriptPlays'. -/
def scriptPlaysUptoCard : Claim7 := { stood := { row := scriptPlaysUptoRow, standIns := [], harness := (true, "e7628a40f41ecee1889df80b5d4ad8a9c3a110d85373a5fed0e46aaf48790d1b"), looks := true }, kinds := [], alts := [], laidByText := true, laidKinds := [.data, .data, .data, .data], laidTests := true, laidLooks := .later }
def ScriptPlaysUptoCardSaid : Prop := Claim7.holds Tryz.pinned (.plain (OpenSpec.upto scriptPlaysSpec)) scriptPlaysUptoCard

/-- THE SECOND FORM's CARD OF 'avouchlaw19.ScriptAgain'. -/
def scriptAgainUptoCard : Claim7 := { stood := { row := scriptAgainUptoRow, standIns := [], harness := (true, "e7628a40f41ecee1889df80b5d4ad8a9c3a110d85373a5fed0e46aaf48790d1b"), looks := true }, kinds := [], alts := [], laidByText := true, laidKinds := [.data, .data, .data, .data], laidTests := true, laidLooks := .later }
def ScriptAgainUptoCardSaid : Prop := Claim7.holds Tryz.pinned (.plain (OpenSpec.upto scriptAgainSpec)) scriptAgainUptoCard

/-- THE SECOND FORM's CARD OF 'avouchlaw19.ScriptCalls'. -/
def scriptCallsUptoCard : Claim7 := { stood := { row := scriptCallsUptoRow, standIns := [], harness := (true, "e7628a40f41ecee1889df80b5d4ad8a9c3a110d85373a5fed0e46aaf48790d1b"), looks := true }, kinds := [], alts := [], laidByText := true, laidKinds := [.data, .data, .data, .data], laidTests := true, laidLooks := .later }
def ScriptCallsUptoCardSaid : Prop := Claim7.holds Tryz.pinned (.plain (OpenSpec.upto scriptCallsSpec)) scriptCallsUptoCard
end Rows
end Go.Proofs.YtbookmjmhfoolaaGreatDoor
