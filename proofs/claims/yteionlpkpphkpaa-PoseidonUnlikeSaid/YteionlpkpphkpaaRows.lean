/-
  No cell of these rows narrows 'for every input' (looked for: loops, veiled, ifaces, maps, wideKeys, modest, calm, conditions, laid).
  DERIVED. THE GIVEN ROWS OF THIS SEAT. 7 by the template 'for every input the law returns true; each argument reads behind the call as it read before'; 0 by the template 'total and deterministic' (their statements: YteionlpkpphkpaaTotals.lean).
  GIVEN WITH THE SEED: the statements are not yours to turn. If you find one false, say at which input.
  Laid BY PROGRAM, IN A SANDBOX (cutbox-rows.mjs): the forced cells as the released guide's own fill.sh prints them over the translation 2c3c0bf25c853323… (all of the seat's roots in one cut). By AI agents, Wed Nov 11 2026. No macro, syntax, notation, axiom, sorry.
-/
import Derived.Test.YteionlpkpphkpaaChecked
import GoSem.Claim
import GoSem.ClaimJoined
import GoSem.ClaimMapViews
import Derived.JoinedTies
import Derived.KernelRfl
namespace Go.Proofs.Yteionlpkpphkpaa
/- THE CELL 'sum', in the pinned program and in every row, IS THE sha256 OF THE DUMP (.gsa) THAT YteionlpkpphkpaaProg.lean LOADS. Nothing in Lean hashes anything: it is a label: what it is worth is what the hold of that sum in a sandbox is worth. -/
noncomputable def Try.pinned : Pinned := { name := "yteionlpkpphkpaa", sum := "2c3c0bf25c853323b620615a8d5150a75b8ef8e14ca3769cb01ad32b621ca25c", checked := Try.checked }
namespace Rows
def none {H : Type} : Left H := { results := [], args := [] }

/-- 'avouchlaw10.PoseidonConstants': WHATEVER THE INPUT: true; the input reads as it did. -/
def poseidonConstantsSpec : ChangeSpec := { name := "poseidonConstants", fn := fun _ => fun
  | [d] => { results := [.lit (.bool true)], args := [d] }
  | _ => none }
def poseidonConstantsRow : OpenClaim := { program := "yteionlpkpphkpaa", sum := "2c3c0bf25c853323b620615a8d5150a75b8ef8e14ca3769cb01ad32b621ca25c", func := "avouch/avouchlaw10.PoseidonConstants", spec := "poseidonConstants", inPlace := ["math/bits.Add64", "math/bits.Sub64", "sync/atomic.LoadUint32", "(*internal/sync.Mutex).Lock", "internal/race.Disable", "sync/atomic.CompareAndSwapInt32", "internal/race.Enable", "internal/race.Acquire", "(*internal/sync.Mutex).lockSlow", "internal/sync.runtime_canSpin", "internal/sync.runtime_doSpin", "internal/sync.throw", "internal/sync.runtime_nanotime", "internal/sync.runtime_SemacquireMutex", "sync/atomic.AddInt32", "(*internal/sync.Mutex).Unlock", "internal/race.ReleaseMerge", "(*internal/sync.Mutex).unlockSlow", "internal/sync.fatal", "internal/sync.runtime_Semrelease", "sync/atomic.StoreUint32"], unfollowed := true, recurses := true, apart := false }
def PoseidonConstantsSaid : Prop := poseidonConstantsRow.holds Try.pinned (OpenSpec.ofChange poseidonConstantsSpec)

/-- ITS FALSE NEIGHBOUR: 'it returns false'. Refute it at one input. -/
def poseidonConstantsWrong : ChangeSpec := { name := "poseidonConstants", fn := fun _ => fun
  | [d] => { results := [.lit (.bool false)], args := [d] }
  | _ => none }
def PoseidonConstantsWrongFalsely : Prop := poseidonConstantsRow.holds Try.pinned (OpenSpec.ofChange poseidonConstantsWrong)

/-- 'avouchlaw10.PoseidonUnlike': WHATEVER THE INPUT: true; the input reads as it did. -/
def poseidonUnlikeSpec : ChangeSpec := { name := "poseidonUnlike", fn := fun _ => fun
  | [d1, d2] => { results := [.lit (.bool true)], args := [d1, d2] }
  | _ => none }
def poseidonUnlikeRow : OpenClaim := { program := "yteionlpkpphkpaa", sum := "2c3c0bf25c853323b620615a8d5150a75b8ef8e14ca3769cb01ad32b621ca25c", func := "avouch/avouchlaw10.PoseidonUnlike", spec := "poseidonUnlike", inPlace := ["math/bits.Add64", "math/bits.Sub64", "sync/atomic.LoadUint32", "(*internal/sync.Mutex).Lock", "internal/race.Disable", "sync/atomic.CompareAndSwapInt32", "internal/race.Enable", "internal/race.Acquire", "(*internal/sync.Mutex).lockSlow", "internal/sync.runtime_canSpin", "internal/sync.runtime_doSpin", "internal/sync.throw", "internal/sync.runtime_nanotime", "internal/sync.runtime_SemacquireMutex", "sync/atomic.AddInt32", "(*internal/sync.Mutex).Unlock", "internal/race.ReleaseMerge", "(*internal/sync.Mutex).unlockSlow", "internal/sync.fatal", "internal/sync.runtime_Semrelease", "sync/atomic.StoreUint32"], unfollowed := true, recurses := true, apart := false }
def PoseidonUnlikeSaid : Prop := poseidonUnlikeRow.holds Try.pinned (OpenSpec.ofChange poseidonUnlikeSpec)

/-- ITS FALSE NEIGHBOUR: 'it returns false'. Refute it at one input. -/
def poseidonUnlikeWrong : ChangeSpec := { name := "poseidonUnlike", fn := fun _ => fun
  | [d1, d2] => { results := [.lit (.bool false)], args := [d1, d2] }
  | _ => none }
def PoseidonUnlikeWrongFalsely : Prop := poseidonUnlikeRow.holds Try.pinned (OpenSpec.ofChange poseidonUnlikeWrong)

/-- 'avouchlaw10.PoseidonPower': WHATEVER THE INPUT: true; the input reads as it did. -/
def poseidonPowerSpec : ChangeSpec := { name := "poseidonPower", fn := fun _ => fun
  | [d1, d2] => { results := [.lit (.bool true)], args := [d1, d2] }
  | _ => none }
def poseidonPowerRow : OpenClaim := { program := "yteionlpkpphkpaa", sum := "2c3c0bf25c853323b620615a8d5150a75b8ef8e14ca3769cb01ad32b621ca25c", func := "avouch/avouchlaw10.PoseidonPower", spec := "poseidonPower", inPlace := ["math/bits.Add64", "math/bits.Sub64", "sync/atomic.LoadUint32", "(*internal/sync.Mutex).Lock", "internal/race.Disable", "sync/atomic.CompareAndSwapInt32", "internal/race.Enable", "internal/race.Acquire", "(*internal/sync.Mutex).lockSlow", "internal/sync.runtime_canSpin", "internal/sync.runtime_doSpin", "internal/sync.throw", "internal/sync.runtime_nanotime", "internal/sync.runtime_SemacquireMutex", "sync/atomic.AddInt32", "(*internal/sync.Mutex).Unlock", "internal/race.ReleaseMerge", "(*internal/sync.Mutex).unlockSlow", "internal/sync.fatal", "internal/sync.runtime_Semrelease", "sync/atomic.StoreUint32"], unfollowed := true, recurses := true, apart := false }
def PoseidonPowerSaid : Prop := poseidonPowerRow.holds Try.pinned (OpenSpec.ofChange poseidonPowerSpec)

/-- ITS FALSE NEIGHBOUR: 'it returns false'. Refute it at one input. -/
def poseidonPowerWrong : ChangeSpec := { name := "poseidonPower", fn := fun _ => fun
  | [d1, d2] => { results := [.lit (.bool false)], args := [d1, d2] }
  | _ => none }
def PoseidonPowerWrongFalsely : Prop := poseidonPowerRow.holds Try.pinned (OpenSpec.ofChange poseidonPowerWrong)

/-- 'avouchlaw10.PoseidonSteps': WHATEVER THE INPUT: true; the input reads as it did. -/
def poseidonStepsSpec : ChangeSpec := { name := "poseidonSteps", fn := fun _ => fun
  | [d1, d2] => { results := [.lit (.bool true)], args := [d1, d2] }
  | _ => none }
def poseidonStepsRow : OpenClaim := { program := "yteionlpkpphkpaa", sum := "2c3c0bf25c853323b620615a8d5150a75b8ef8e14ca3769cb01ad32b621ca25c", func := "avouch/avouchlaw10.PoseidonSteps", spec := "poseidonSteps", inPlace := ["math/bits.Add64", "math/bits.Sub64", "sync/atomic.LoadUint32", "(*internal/sync.Mutex).Lock", "internal/race.Disable", "sync/atomic.CompareAndSwapInt32", "internal/race.Enable", "internal/race.Acquire", "(*internal/sync.Mutex).lockSlow", "internal/sync.runtime_canSpin", "internal/sync.runtime_doSpin", "internal/sync.throw", "internal/sync.runtime_nanotime", "internal/sync.runtime_SemacquireMutex", "sync/atomic.AddInt32", "(*internal/sync.Mutex).Unlock", "internal/race.ReleaseMerge", "(*internal/sync.Mutex).unlockSlow", "internal/sync.fatal", "internal/sync.runtime_Semrelease", "sync/atomic.StoreUint32"], unfollowed := true, recurses := true, apart := false }
def PoseidonStepsSaid : Prop := poseidonStepsRow.holds Try.pinned (OpenSpec.ofChange poseidonStepsSpec)

/-- ITS FALSE NEIGHBOUR: 'it returns false'. Refute it at one input. -/
def poseidonStepsWrong : ChangeSpec := { name := "poseidonSteps", fn := fun _ => fun
  | [d1, d2] => { results := [.lit (.bool false)], args := [d1, d2] }
  | _ => none }
def PoseidonStepsWrongFalsely : Prop := poseidonStepsRow.holds Try.pinned (OpenSpec.ofChange poseidonStepsWrong)

/-- 'avouchlaw11.DuplexLays': WHATEVER THE INPUT: true; the input reads as it did. -/
def duplexLaysSpec : ChangeSpec := { name := "duplexLays", fn := fun _ => fun
  | [d1, d2] => { results := [.lit (.bool true)], args := [d1, d2] }
  | _ => none }
def duplexLaysRow : OpenClaim := { program := "yteionlpkpphkpaa", sum := "2c3c0bf25c853323b620615a8d5150a75b8ef8e14ca3769cb01ad32b621ca25c", func := "avouch/avouchlaw11.DuplexLays", spec := "duplexLays", unfollowed := true, recurses := true, apart := false }
def DuplexLaysSaid : Prop := duplexLaysRow.holds Try.pinned (OpenSpec.ofChange duplexLaysSpec)

/-- ITS FALSE NEIGHBOUR: 'it returns false'. Refute it at one input. -/
def duplexLaysWrong : ChangeSpec := { name := "duplexLays", fn := fun _ => fun
  | [d1, d2] => { results := [.lit (.bool false)], args := [d1, d2] }
  | _ => none }
def DuplexLaysWrongFalsely : Prop := duplexLaysRow.holds Try.pinned (OpenSpec.ofChange duplexLaysWrong)

/-- 'avouchlaw11.DuplexHides': WHATEVER THE INPUT: true; the input reads as it did. -/
def duplexHidesSpec : ChangeSpec := { name := "duplexHides", fn := fun _ => fun
  | [d] => { results := [.lit (.bool true)], args := [d] }
  | _ => none }
def duplexHidesRow : OpenClaim := { program := "yteionlpkpphkpaa", sum := "2c3c0bf25c853323b620615a8d5150a75b8ef8e14ca3769cb01ad32b621ca25c", func := "avouch/avouchlaw11.DuplexHides", spec := "duplexHides", unfollowed := true, recurses := true, apart := false }
def DuplexHidesSaid : Prop := duplexHidesRow.holds Try.pinned (OpenSpec.ofChange duplexHidesSpec)

/-- ITS FALSE NEIGHBOUR: 'it returns false'. Refute it at one input. -/
def duplexHidesWrong : ChangeSpec := { name := "duplexHides", fn := fun _ => fun
  | [d] => { results := [.lit (.bool false)], args := [d] }
  | _ => none }
def DuplexHidesWrongFalsely : Prop := duplexHidesRow.holds Try.pinned (OpenSpec.ofChange duplexHidesWrong)

/-- 'avouchlaw11.DuplexPieces': WHATEVER THE INPUT: true; the input reads as it did. -/
def duplexPiecesSpec : ChangeSpec := { name := "duplexPieces", fn := fun _ => fun
  | [d1, d2] => { results := [.lit (.bool true)], args := [d1, d2] }
  | _ => none }
def duplexPiecesRow : OpenClaim := { program := "yteionlpkpphkpaa", sum := "2c3c0bf25c853323b620615a8d5150a75b8ef8e14ca3769cb01ad32b621ca25c", func := "avouch/avouchlaw11.DuplexPieces", spec := "duplexPieces", unfollowed := true, recurses := true, apart := false }
def DuplexPiecesSaid : Prop := duplexPiecesRow.holds Try.pinned (OpenSpec.ofChange duplexPiecesSpec)

/-- ITS FALSE NEIGHBOUR: 'it returns false'. Refute it at one input. -/
def duplexPiecesWrong : ChangeSpec := { name := "duplexPieces", fn := fun _ => fun
  | [d1, d2] => { results := [.lit (.bool false)], args := [d1, d2] }
  | _ => none }
def DuplexPiecesWrongFalsely : Prop := duplexPiecesRow.holds Try.pinned (OpenSpec.ofChange duplexPiecesWrong)

/- THE SECOND FORM. 'bulk': how many values and letters a reading holds, each counted each time it is reached (what is shared counts as often as it is met; a slice's spare places count too). A statement '..UptoSaid' is the law's where the arguments, and the package variables that the reading takes, are together of bulk at most 1048576: NARROWER than '..Said'. Prove '..Said' where nothing that the law and all that it calls make is longer than what came in: it says more and counts as full. Else prove '..UptoSaid'. A law counts once. -/
mutual
def uptoBulk {H : Type} : DataW H → Nat
  | .lit (.string bytes) => bytes.length + 1
  | .lit _ => 1
  | .nil => 1
  | .ptr d => uptoBulk d + 1
  | .slice elems spare => uptoBulkAll elems + uptoBulkAll spare + 1
  | .agg parts => uptoBulkAll parts + 1
  | .iface _ d => uptoBulk d + 1
  | .map entries => uptoBulkEntries entries + 1
  | .held _ => 1
def uptoBulkAll {H : Type} : List (DataW H) → Nat
  | [] => 0
  | d :: r => uptoBulk d + uptoBulkAll r
def uptoBulkEntries {H : Type} : List (Lit × DataW H) → Nat
  | [] => 0
  | x :: r => uptoBulkEntry x + uptoBulkEntries r
def uptoBulkEntry {H : Type} : Lit × DataW H → Nat
  | (.string bytes, d) => bytes.length + uptoBulk d + 1
  | (_, d) => uptoBulk d + 1
 end
def uptoSmall : (H : Type) → List (DataW H) → Bool := fun _ ds => decide (uptoBulkAll ds ≤ 1048576)
def OpenSpec.upto (s : _root_.Go.ChangeSpec) : _root_.Go.OpenSpec := { _root_.Go.OpenSpec.ofChange s with cond := some uptoSmall }

/-- 'avouchlaw10.PoseidonConstants', WHERE WHAT IT READS IS OF BULK AT MOST 1048576: true; the input reads as it did. -/
def poseidonConstantsUptoRow : OpenClaim := { program := "yteionlpkpphkpaa", sum := "2c3c0bf25c853323b620615a8d5150a75b8ef8e14ca3769cb01ad32b621ca25c", func := "avouch/avouchlaw10.PoseidonConstants", spec := "poseidonConstants", inPlace := ["math/bits.Add64", "math/bits.Sub64", "sync/atomic.LoadUint32", "(*internal/sync.Mutex).Lock", "internal/race.Disable", "sync/atomic.CompareAndSwapInt32", "internal/race.Enable", "internal/race.Acquire", "(*internal/sync.Mutex).lockSlow", "internal/sync.runtime_canSpin", "internal/sync.runtime_doSpin", "internal/sync.throw", "internal/sync.runtime_nanotime", "internal/sync.runtime_SemacquireMutex", "sync/atomic.AddInt32", "(*internal/sync.Mutex).Unlock", "internal/race.ReleaseMerge", "(*internal/sync.Mutex).unlockSlow", "internal/sync.fatal", "internal/sync.runtime_Semrelease", "sync/atomic.StoreUint32"], unfollowed := true, recurses := true, apart := false, narrowed := true }
def PoseidonConstantsUptoSaid : Prop := poseidonConstantsUptoRow.holds Try.pinned (OpenSpec.upto poseidonConstantsSpec)

/-- 'avouchlaw10.PoseidonUnlike', WHERE WHAT IT READS IS OF BULK AT MOST 1048576: true; the input reads as it did. -/
def poseidonUnlikeUptoRow : OpenClaim := { program := "yteionlpkpphkpaa", sum := "2c3c0bf25c853323b620615a8d5150a75b8ef8e14ca3769cb01ad32b621ca25c", func := "avouch/avouchlaw10.PoseidonUnlike", spec := "poseidonUnlike", inPlace := ["math/bits.Add64", "math/bits.Sub64", "sync/atomic.LoadUint32", "(*internal/sync.Mutex).Lock", "internal/race.Disable", "sync/atomic.CompareAndSwapInt32", "internal/race.Enable", "internal/race.Acquire", "(*internal/sync.Mutex).lockSlow", "internal/sync.runtime_canSpin", "internal/sync.runtime_doSpin", "internal/sync.throw", "internal/sync.runtime_nanotime", "internal/sync.runtime_SemacquireMutex", "sync/atomic.AddInt32", "(*internal/sync.Mutex).Unlock", "internal/race.ReleaseMerge", "(*internal/sync.Mutex).unlockSlow", "internal/sync.fatal", "internal/sync.runtime_Semrelease", "sync/atomic.StoreUint32"], unfollowed := true, recurses := true, apart := false, narrowed := true }
def PoseidonUnlikeUptoSaid : Prop := poseidonUnlikeUptoRow.holds Try.pinned (OpenSpec.upto poseidonUnlikeSpec)

/-- 'avouchlaw10.PoseidonPower', WHERE WHAT IT READS IS OF BULK AT MOST 1048576: true; the input reads as it did. -/
def poseidonPowerUptoRow : OpenClaim := { program := "yteionlpkpphkpaa", sum := "2c3c0bf25c853323b620615a8d5150a75b8ef8e14ca3769cb01ad32b621ca25c", func := "avouch/avouchlaw10.PoseidonPower", spec := "poseidonPower", inPlace := ["math/bits.Add64", "math/bits.Sub64", "sync/atomic.LoadUint32", "(*internal/sync.Mutex).Lock", "internal/race.Disable", "sync/atomic.CompareAndSwapInt32", "internal/race.Enable", "internal/race.Acquire", "(*internal/sync.Mutex).lockSlow", "internal/sync.runtime_canSpin", "internal/sync.runtime_doSpin", "internal/sync.throw", "internal/sync.runtime_nanotime", "internal/sync.runtime_SemacquireMutex", "sync/atomic.AddInt32", "(*internal/sync.Mutex).Unlock", "internal/race.ReleaseMerge", "(*internal/sync.Mutex).unlockSlow", "internal/sync.fatal", "internal/sync.runtime_Semrelease", "sync/atomic.StoreUint32"], unfollowed := true, recurses := true, apart := false, narrowed := true }
def PoseidonPowerUptoSaid : Prop := poseidonPowerUptoRow.holds Try.pinned (OpenSpec.upto poseidonPowerSpec)

/-- 'avouchlaw10.PoseidonSteps', WHERE WHAT IT READS IS OF BULK AT MOST 1048576: true; the input reads as it did. -/
def poseidonStepsUptoRow : OpenClaim := { program := "yteionlpkpphkpaa", sum := "2c3c0bf25c853323b620615a8d5150a75b8ef8e14ca3769cb01ad32b621ca25c", func := "avouch/avouchlaw10.PoseidonSteps", spec := "poseidonSteps", inPlace := ["math/bits.Add64", "math/bits.Sub64", "sync/atomic.LoadUint32", "(*internal/sync.Mutex).Lock", "internal/race.Disable", "sync/atomic.CompareAndSwapInt32", "internal/race.Enable", "internal/race.Acquire", "(*internal/sync.Mutex).lockSlow", "internal/sync.runtime_canSpin", "internal/sync.runtime_doSpin", "internal/sync.throw", "internal/sync.runtime_nanotime", "internal/sync.runtime_SemacquireMutex", "sync/atomic.AddInt32", "(*internal/sync.Mutex).Unlock", "internal/race.ReleaseMerge", "(*internal/sync.Mutex).unlockSlow", "internal/sync.fatal", "internal/sync.runtime_Semrelease", "sync/atomic.StoreUint32"], unfollowed := true, recurses := true, apart := false, narrowed := true }
def PoseidonStepsUptoSaid : Prop := poseidonStepsUptoRow.holds Try.pinned (OpenSpec.upto poseidonStepsSpec)

/-- 'avouchlaw11.DuplexLays', WHERE WHAT IT READS IS OF BULK AT MOST 1048576: true; the input reads as it did. -/
def duplexLaysUptoRow : OpenClaim := { program := "yteionlpkpphkpaa", sum := "2c3c0bf25c853323b620615a8d5150a75b8ef8e14ca3769cb01ad32b621ca25c", func := "avouch/avouchlaw11.DuplexLays", spec := "duplexLays", unfollowed := true, recurses := true, apart := false, narrowed := true }
def DuplexLaysUptoSaid : Prop := duplexLaysUptoRow.holds Try.pinned (OpenSpec.upto duplexLaysSpec)

/-- 'avouchlaw11.DuplexHides', WHERE WHAT IT READS IS OF BULK AT MOST 1048576: true; the input reads as it did. -/
def duplexHidesUptoRow : OpenClaim := { program := "yteionlpkpphkpaa", sum := "2c3c0bf25c853323b620615a8d5150a75b8ef8e14ca3769cb01ad32b621ca25c", func := "avouch/avouchlaw11.DuplexHides", spec := "duplexHides", unfollowed := true, recurses := true, apart := false, narrowed := true }
def DuplexHidesUptoSaid : Prop := duplexHidesUptoRow.holds Try.pinned (OpenSpec.upto duplexHidesSpec)

/-- 'avouchlaw11.DuplexPieces', WHERE WHAT IT READS IS OF BULK AT MOST 1048576: true; the input reads as it did. -/
def duplexPiecesUptoRow : OpenClaim := { program := "yteionlpkpphkpaa", sum := "2c3c0bf25c853323b620615a8d5150a75b8ef8e14ca3769cb01ad32b621ca25c", func := "avouch/avouchlaw11.DuplexPieces", spec := "duplexPieces", unfollowed := true, recurses := true, apart := false, narrowed := true }
def DuplexPiecesUptoSaid : Prop := duplexPiecesUptoRow.holds Try.pinned (OpenSpec.upto duplexPiecesSpec)

end Rows
end Go.Proofs.Yteionlpkpphkpaa
