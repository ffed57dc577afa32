/-
  NARROWER THAN 'FOR EVERY INPUT', by the rows' own cells (each row's printed sentence says how): TranscriptGuards: laid · TranscriptCounts: laid · TranscriptLayers: laid · TranscriptSticks: laid · TranscriptBytes: laid · TranscriptFields: laid.
  DERIVED. THE GIVEN ROWS OF THIS SEAT. 6 by the template 'for every input the law returns true; each argument reads behind the call as it read before'; 0 by the template 'total and deterministic' (their statements: YtafkceblllhheaaGreatDoorTotals.lean).
  GIVEN WITH THE SEED: the statements are not yours to turn. If you find one false, say at which input.
  Laid BY PROGRAM, IN A SANDBOX (cutbox-rows.mjs): the forced cells as the released guide's own fill.sh prints them over the translation af1eda5709388530… (all of the seat's roots in one cut). By AI agents, Wed Nov 11 2026. No macro, syntax, notation, axiom, sorry.
-/
import Derived.Test.YtafkceblllhheaaGreatDoorChecked
import GoSem.Claim
import GoSem.ClaimJoined
import GoSem.ClaimMapViews
import Derived.JoinedTies
import Derived.KernelRfl
namespace Go.Proofs.YtafkceblllhheaaGreatDoor
/- THE CELL 'sum', in the pinned program and in every row, IS THE sha256 OF THE DUMP (.gsa) THAT YtafkceblllhheaaGreatDoorProg.lean LOADS. Nothing in Lean hashes anything: it is a label: what it is worth is what the hold of that sum in a sandbox is worth. -/
noncomputable def Tryz.pinned : Pinned := { name := "ytafkceblllhheaagreatdoor", sum := "af1eda57093885308e700ec39ba88be7c057f5357436760eb9c49e48c9eb6b2b", checked := Tryz.checked }
namespace Rows
def none {H : Type} : Left H := { results := [], args := [] }

/- WHAT THE LISTED PACKAGE-LEVEL VARIABLES READ AS WHEN THE CALL BEGINS. Each datum BY PROGRAM (the guide's laid-datum.mjs) off the statement by which the dump's own 'gosem.cut.vars' lays the variable. In a bare row this is a premise. The card (YtafkceblllhheaaGreatDoorCards.lean) ties it to the program's text. -/
def laid_avouch_keccak_constants {H : Type} : DataW H := .agg [.lit (.int .u64 1), .lit (.int .u64 32898), .lit (.int .u64 9223372036854808714), .lit (.int .u64 9223372039002292224), .lit (.int .u64 32907), .lit (.int .u64 2147483649), .lit (.int .u64 9223372039002292353), .lit (.int .u64 9223372036854808585), .lit (.int .u64 138), .lit (.int .u64 136), .lit (.int .u64 2147516425), .lit (.int .u64 2147483658), .lit (.int .u64 2147516555), .lit (.int .u64 9223372036854775947), .lit (.int .u64 9223372036854808713), .lit (.int .u64 9223372036854808579), .lit (.int .u64 9223372036854808578), .lit (.int .u64 9223372036854775936), .lit (.int .u64 32778), .lit (.int .u64 9223372039002259466), .lit (.int .u64 9223372039002292353), .lit (.int .u64 9223372036854808704), .lit (.int .u64 2147483649), .lit (.int .u64 9223372039002292232)]

/-- 'avouchlaw18.TranscriptGuards': WHATEVER THE INPUT: true; the input reads as it did. -/
def transcriptGuardsSpec : ChangeSpec := { name := "transcriptGuards", fn := fun _ => fun
  | [d1, d2] => { results := [.lit (.bool true)], args := [d1, d2] }
  | _ => none }
def transcriptGuardsRow : OpenClaim := { program := "ytafkceblllhheaagreatdoor", sum := "af1eda57093885308e700ec39ba88be7c057f5357436760eb9c49e48c9eb6b2b", func := "avouch/avouchlaw18.TranscriptGuards", spec := "transcriptGuards", inPlace := ["math/bits.Sub64", "math/bits.Add64"], unfollowed := true, recurses := true, named := ["avouch/keccak.constants"], apart := false, laid := [("avouch/keccak.constants", laid_avouch_keccak_constants)] }
def TranscriptGuardsSaid : Prop := transcriptGuardsRow.holds Tryz.pinned (OpenSpec.ofChange transcriptGuardsSpec)

/-- ITS FALSE NEIGHBOUR: 'it returns false'. Refute it at one input. -/
def transcriptGuardsWrong : ChangeSpec := { name := "transcriptGuards", fn := fun _ => fun
  | [d1, d2] => { results := [.lit (.bool false)], args := [d1, d2] }
  | _ => none }
def TranscriptGuardsWrongFalsely : Prop := transcriptGuardsRow.holds Tryz.pinned (OpenSpec.ofChange transcriptGuardsWrong)

/-- 'avouchlaw18.TranscriptCounts': WHATEVER THE INPUT: true; the input reads as it did. -/
def transcriptCountsSpec : ChangeSpec := { name := "transcriptCounts", fn := fun _ => fun
  | [d] => { results := [.lit (.bool true)], args := [d] }
  | _ => none }
def transcriptCountsRow : OpenClaim := { program := "ytafkceblllhheaagreatdoor", sum := "af1eda57093885308e700ec39ba88be7c057f5357436760eb9c49e48c9eb6b2b", func := "avouch/avouchlaw18.TranscriptCounts", spec := "transcriptCounts", inPlace := ["math/bits.Sub64", "math/bits.Add64"], unfollowed := true, recurses := true, named := ["avouch/keccak.constants"], apart := false, laid := [("avouch/keccak.constants", laid_avouch_keccak_constants)] }
def TranscriptCountsSaid : Prop := transcriptCountsRow.holds Tryz.pinned (OpenSpec.ofChange transcriptCountsSpec)

/-- ITS FALSE NEIGHBOUR: 'it returns false'. Refute it at one input. -/
def transcriptCountsWrong : ChangeSpec := { name := "transcriptCounts", fn := fun _ => fun
  | [d] => { results := [.lit (.bool false)], args := [d] }
  | _ => none }
def TranscriptCountsWrongFalsely : Prop := transcriptCountsRow.holds Tryz.pinned (OpenSpec.ofChange transcriptCountsWrong)

/-- 'avouchlaw18.TranscriptLayers': WHATEVER THE INPUT: true; the input reads as it did. -/
def transcriptLayersSpec : ChangeSpec := { name := "transcriptLayers", fn := fun _ => fun
  | [d] => { results := [.lit (.bool true)], args := [d] }
  | _ => none }
def transcriptLayersRow : OpenClaim := { program := "ytafkceblllhheaagreatdoor", sum := "af1eda57093885308e700ec39ba88be7c057f5357436760eb9c49e48c9eb6b2b", func := "avouch/avouchlaw18.TranscriptLayers", spec := "transcriptLayers", inPlace := ["math/bits.Sub64", "math/bits.Add64"], unfollowed := true, recurses := true, named := ["avouch/keccak.constants"], apart := false, laid := [("avouch/keccak.constants", laid_avouch_keccak_constants)] }
def TranscriptLayersSaid : Prop := transcriptLayersRow.holds Tryz.pinned (OpenSpec.ofChange transcriptLayersSpec)

/-- ITS FALSE NEIGHBOUR: 'it returns false'. Refute it at one input. -/
def transcriptLayersWrong : ChangeSpec := { name := "transcriptLayers", fn := fun _ => fun
  | [d] => { results := [.lit (.bool false)], args := [d] }
  | _ => none }
def TranscriptLayersWrongFalsely : Prop := transcriptLayersRow.holds Tryz.pinned (OpenSpec.ofChange transcriptLayersWrong)

/-- 'avouchlaw18.TranscriptSticks': WHATEVER THE INPUT: true; the input reads as it did. -/
def transcriptSticksSpec : ChangeSpec := { name := "transcriptSticks", fn := fun _ => fun
  | [d1, d2] => { results := [.lit (.bool true)], args := [d1, d2] }
  | _ => none }
def transcriptSticksRow : OpenClaim := { program := "ytafkceblllhheaagreatdoor", sum := "af1eda57093885308e700ec39ba88be7c057f5357436760eb9c49e48c9eb6b2b", func := "avouch/avouchlaw18.TranscriptSticks", spec := "transcriptSticks", inPlace := ["math/bits.Sub64", "math/bits.Add64"], unfollowed := true, recurses := true, named := ["avouch/keccak.constants"], apart := false, laid := [("avouch/keccak.constants", laid_avouch_keccak_constants)] }
def TranscriptSticksSaid : Prop := transcriptSticksRow.holds Tryz.pinned (OpenSpec.ofChange transcriptSticksSpec)

/-- ITS FALSE NEIGHBOUR: 'it returns false'. Refute it at one input. -/
def transcriptSticksWrong : ChangeSpec := { name := "transcriptSticks", fn := fun _ => fun
  | [d1, d2] => { results := [.lit (.bool false)], args := [d1, d2] }
  | _ => none }
def TranscriptSticksWrongFalsely : Prop := transcriptSticksRow.holds Tryz.pinned (OpenSpec.ofChange transcriptSticksWrong)

/-- 'avouchlaw18.TranscriptBytes': WHATEVER THE INPUT: true; the input reads as it did. -/
def transcriptBytesSpec : ChangeSpec := { name := "transcriptBytes", fn := fun _ => fun
  | [d1, d2, d3] => { results := [.lit (.bool true)], args := [d1, d2, d3] }
  | _ => none }
def transcriptBytesRow : OpenClaim := { program := "ytafkceblllhheaagreatdoor", sum := "af1eda57093885308e700ec39ba88be7c057f5357436760eb9c49e48c9eb6b2b", func := "avouch/avouchlaw18.TranscriptBytes", spec := "transcriptBytes", inPlace := ["math/bits.Sub64", "math/bits.Add64"], unfollowed := true, recurses := true, named := ["avouch/keccak.constants"], apart := false, laid := [("avouch/keccak.constants", laid_avouch_keccak_constants)] }
def TranscriptBytesSaid : Prop := transcriptBytesRow.holds Tryz.pinned (OpenSpec.ofChange transcriptBytesSpec)

/-- ITS FALSE NEIGHBOUR: 'it returns false'. Refute it at one input. -/
def transcriptBytesWrong : ChangeSpec := { name := "transcriptBytes", fn := fun _ => fun
  | [d1, d2, d3] => { results := [.lit (.bool false)], args := [d1, d2, d3] }
  | _ => none }
def TranscriptBytesWrongFalsely : Prop := transcriptBytesRow.holds Tryz.pinned (OpenSpec.ofChange transcriptBytesWrong)

/-- 'avouchlaw18.TranscriptFields': WHATEVER THE INPUT: true; the input reads as it did. -/
def transcriptFieldsSpec : ChangeSpec := { name := "transcriptFields", fn := fun _ => fun
  | [d1, d2] => { results := [.lit (.bool true)], args := [d1, d2] }
  | _ => none }
def transcriptFieldsRow : OpenClaim := { program := "ytafkceblllhheaagreatdoor", sum := "af1eda57093885308e700ec39ba88be7c057f5357436760eb9c49e48c9eb6b2b", func := "avouch/avouchlaw18.TranscriptFields", spec := "transcriptFields", inPlace := ["math/bits.Sub64", "math/bits.Add64"], unfollowed := true, recurses := true, named := ["avouch/keccak.constants"], apart := false, laid := [("avouch/keccak.constants", laid_avouch_keccak_constants)] }
def TranscriptFieldsSaid : Prop := transcriptFieldsRow.holds Tryz.pinned (OpenSpec.ofChange transcriptFieldsSpec)

/-- ITS FALSE NEIGHBOUR: 'it returns false'. Refute it at one input. -/
def transcriptFieldsWrong : ChangeSpec := { name := "transcriptFields", fn := fun _ => fun
  | [d1, d2] => { results := [.lit (.bool false)], args := [d1, d2] }
  | _ => none }
def TranscriptFieldsWrongFalsely : Prop := transcriptFieldsRow.holds Tryz.pinned (OpenSpec.ofChange transcriptFieldsWrong)

/- THE SECOND FORM. 'bulk': how many values and letters a reading holds, each counted each time it is reached (what is shared counts as often as it is met; a slice's spare places count too). A statement '..UptoSaid' is the law's where the arguments, and the package variables that the reading takes, are together of bulk at most 1048576: NARROWER than '..Said'. Prove '..Said' where nothing that the law and all that it calls make is longer than what came in: it says more and counts as full. Else prove '..UptoSaid'. A law counts once. -/
mutual
def uptoBulk {H : Type} : DataW H → Nat
  | .lit (.string bytes) => bytes.length + 1
  | .lit _ => 1
  | .nil => 1
  | .ptr d => uptoBulk d + 1
  | .slice elems spare => uptoBulkAll elems + uptoBulkAll spare + 1
  | .agg parts => uptoBulkAll parts + 1
  | .iface _ d => uptoBulk d + 1
  | .map entries => uptoBulkEntries entries + 1
  | .held _ => 1
def uptoBulkAll {H : Type} : List (DataW H) → Nat
  | [] => 0
  | d :: r => uptoBulk d + uptoBulkAll r
def uptoBulkEntries {H : Type} : List (Lit × DataW H) → Nat
  | [] => 0
  | x :: r => uptoBulkEntry x + uptoBulkEntries r
def uptoBulkEntry {H : Type} : Lit × DataW H → Nat
  | (.string bytes, d) => bytes.length + uptoBulk d + 1
  | (_, d) => uptoBulk d + 1
 end
def uptoSmall : (H : Type) → List (DataW H) → Bool := fun _ ds => decide (uptoBulkAll ds ≤ 1048576)
def OpenSpec.upto (s : _root_.Go.ChangeSpec) : _root_.Go.OpenSpec := { _root_.Go.OpenSpec.ofChange s with cond := some uptoSmall }

/-- 'avouchlaw18.TranscriptGuards', WHERE WHAT IT READS IS OF BULK AT MOST 1048576: true; the input reads as it did. -/
def transcriptGuardsUptoRow : OpenClaim := { program := "ytafkceblllhheaagreatdoor", sum := "af1eda57093885308e700ec39ba88be7c057f5357436760eb9c49e48c9eb6b2b", func := "avouch/avouchlaw18.TranscriptGuards", spec := "transcriptGuards", inPlace := ["math/bits.Sub64", "math/bits.Add64"], unfollowed := true, recurses := true, named := ["avouch/keccak.constants"], apart := false, laid := [("avouch/keccak.constants", laid_avouch_keccak_constants)], narrowed := true }
def TranscriptGuardsUptoSaid : Prop := transcriptGuardsUptoRow.holds Tryz.pinned (OpenSpec.upto transcriptGuardsSpec)

/-- 'avouchlaw18.TranscriptCounts', WHERE WHAT IT READS IS OF BULK AT MOST 1048576: true; the input reads as it did. -/
def transcriptCountsUptoRow : OpenClaim := { program := "ytafkceblllhheaagreatdoor", sum := "af1eda57093885308e700ec39ba88be7c057f5357436760eb9c49e48c9eb6b2b", func := "avouch/avouchlaw18.TranscriptCounts", spec := "transcriptCounts", inPlace := ["math/bits.Sub64", "math/bits.Add64"], unfollowed := true, recurses := true, named := ["avouch/keccak.constants"], apart := false, laid := [("avouch/keccak.constants", laid_avouch_keccak_constants)], narrowed := true }
def TranscriptCountsUptoSaid : Prop := transcriptCountsUptoRow.holds Tryz.pinned (OpenSpec.upto transcriptCountsSpec)

/-- 'avouchlaw18.TranscriptLayers', WHERE WHAT IT READS IS OF BULK AT MOST 1048576: true; the input reads as it did. -/
def transcriptLayersUptoRow : OpenClaim := { program := "ytafkceblllhheaagreatdoor", sum := "af1eda57093885308e700ec39ba88be7c057f5357436760eb9c49e48c9eb6b2b", func := "avouch/avouchlaw18.TranscriptLayers", spec := "transcriptLayers", inPlace := ["math/bits.Sub64", "math/bits.Add64"], unfollowed := true, recurses := true, named := ["avouch/keccak.constants"], apart := false, laid := [("avouch/keccak.constants", laid_avouch_keccak_constants)], narrowed := true }
def TranscriptLayersUptoSaid : Prop := transcriptLayersUptoRow.holds Tryz.pinned (OpenSpec.upto transcriptLayersSpec)

/-- 'avouchlaw18.TranscriptSticks', WHERE WHAT IT READS IS OF BULK AT MOST 1048576: true; the input reads as it did. -/
def transcriptSticksUptoRow : OpenClaim := { program := "ytafkceblllhheaagreatdoor", sum := "af1eda57093885308e700ec39ba88be7c057f5357436760eb9c49e48c9eb6b2b", func := "avouch/avouchlaw18.TranscriptSticks", spec := "transcriptSticks", inPlace := ["math/bits.Sub64", "math/bits.Add64"], unfollowed := true, recurses := true, named := ["avouch/keccak.constants"], apart := false, laid := [("avouch/keccak.constants", laid_avouch_keccak_constants)], narrowed := true }
def TranscriptSticksUptoSaid : Prop := transcriptSticksUptoRow.holds Tryz.pinned (OpenSpec.upto transcriptSticksSpec)

/-- 'avouchlaw18.TranscriptBytes', WHERE WHAT IT READS IS OF BULK AT MOST 1048576: true; the input reads as it did. -/
def transcriptBytesUptoRow : OpenClaim := { program := "ytafkceblllhheaagreatdoor", sum := "af1eda57093885308e700ec39ba88be7c057f5357436760eb9c49e48c9eb6b2b", func := "avouch/avouchlaw18.TranscriptBytes", spec := "transcriptBytes", inPlace := ["math/bits.Sub64", "math/bits.Add64"], unfollowed := true, recurses := true, named := ["avouch/keccak.constants"], apart := false, laid := [("avouch/keccak.constants", laid_avouch_keccak_constants)], narrowed := true }
def TranscriptBytesUptoSaid : Prop := transcriptBytesUptoRow.holds Tryz.pinned (OpenSpec.upto transcriptBytesSpec)

/-- 'avouchlaw18.TranscriptFields', WHERE WHAT IT READS IS OF BULK AT MOST 1048576: true; the input reads as it did. -/
def transcriptFieldsUptoRow : OpenClaim := { program := "ytafkceblllhheaagreatdoor", sum := "af1eda57093885308e700ec39ba88be7c057f5357436760eb9c49e48c9eb6b2b", func := "avouch/avouchlaw18.TranscriptFields", spec := "transcriptFields", inPlace := ["math/bits.Sub64", "math/bits.Add64"], unfollowed := true, recurses := true, named := ["avouch/keccak.constants"], apart := false, laid := [("avouch/keccak.constants", laid_avouch_keccak_constants)], narrowed := true }
def TranscriptFieldsUptoSaid : Prop := transcriptFieldsUptoRow.holds Tryz.pinned (OpenSpec.upto transcriptFieldsSpec)

end Rows
end Go.Proofs.YtafkceblllhheaaGreatDoor
