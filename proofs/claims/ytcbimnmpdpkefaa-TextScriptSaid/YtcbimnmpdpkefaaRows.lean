/-
  No cell of these rows narrows 'for every input' (looked for: loops, veiled, ifaces, maps, wideKeys, modest, calm, conditions, laid).
  DERIVED. THE GIVEN ROWS OF THIS SEAT. 3 by the template 'for every input the law returns true; each argument reads behind the call as it read before'; 0 by the template 'total and deterministic' (their statements: YtcbimnmpdpkefaaTotals.lean).
  GIVEN WITH THE SEED: the statements are not yours to turn. If you find one false, say at which input.
  Laid BY PROGRAM, IN A SANDBOX (cutbox-rows.mjs): the forced cells as the released guide's own fill.sh prints them over the translation d3d03a9a83293442… (all of the seat's roots in one cut). By AI agents, Wed Nov 11 2026. No macro, syntax, notation, axiom, sorry.
-/
import Derived.Test.YtcbimnmpdpkefaaChecked
import GoSem.Claim
import GoSem.ClaimJoined
import GoSem.ClaimMapViews
import Derived.JoinedTies
import Derived.KernelRfl
namespace Go.Proofs.Ytcbimnmpdpkefaa
/- THE CELL 'sum', in the pinned program and in every row, IS THE sha256 OF THE DUMP (.gsa) THAT YtcbimnmpdpkefaaProg.lean LOADS. Nothing in Lean hashes anything: it is a label: what it is worth is what the hold of that sum in a sandbox is worth. -/
noncomputable def Try.pinned : Pinned := { name := "ytcbimnmpdpkefaa", sum := "d3d03a9a832934422f86844a1fc74f6a851628777c13fd8fe3e44e69a19abca9", checked := Try.checked }
namespace Rows
def none {H : Type} : Left H := { results := [], args := [] }

/-- 'scholiastlaw01.TextSingly': WHATEVER THE INPUT: true; the input reads as it did. -/
def textSinglySpec : ChangeSpec := { name := "textSingly", fn := fun _ => fun
  | [d1, d2] => { results := [.lit (.bool true)], args := [d1, d2] }
  | _ => none }
def textSinglyRow : OpenClaim := { program := "ytcbimnmpdpkefaa", sum := "d3d03a9a832934422f86844a1fc74f6a851628777c13fd8fe3e44e69a19abca9", func := "scholiast/scholiastlaw01.TextSingly", spec := "textSingly", inPlace := ["internal/abi.NoEscape", "internal/bytealg.MakeNoZero"], apart := false }
def TextSinglySaid : Prop := textSinglyRow.holds Try.pinned (OpenSpec.ofChange textSinglySpec)

/-- ITS FALSE NEIGHBOUR: 'it returns false'. Refute it at one input. -/
def textSinglyWrong : ChangeSpec := { name := "textSingly", fn := fun _ => fun
  | [d1, d2] => { results := [.lit (.bool false)], args := [d1, d2] }
  | _ => none }
def TextSinglyWrongFalsely : Prop := textSinglyRow.holds Try.pinned (OpenSpec.ofChange textSinglyWrong)

/-- 'scholiastlaw01.TextPieces': WHATEVER THE INPUT: true; the input reads as it did. -/
def textPiecesSpec : ChangeSpec := { name := "textPieces", fn := fun _ => fun
  | [d1, d2, d3, d4] => { results := [.lit (.bool true)], args := [d1, d2, d3, d4] }
  | _ => none }
def textPiecesRow : OpenClaim := { program := "ytcbimnmpdpkefaa", sum := "d3d03a9a832934422f86844a1fc74f6a851628777c13fd8fe3e44e69a19abca9", func := "scholiast/scholiastlaw01.TextPieces", spec := "textPieces", inPlace := ["internal/abi.NoEscape", "internal/bytealg.MakeNoZero", "sync/atomic.LoadUint32", "(*internal/sync.Mutex).Lock", "internal/race.Disable", "sync/atomic.CompareAndSwapInt32", "internal/race.Enable", "internal/race.Acquire", "(*internal/sync.Mutex).lockSlow", "internal/sync.runtime_canSpin", "internal/sync.runtime_doSpin", "internal/sync.throw", "internal/sync.runtime_nanotime", "internal/sync.runtime_SemacquireMutex", "sync/atomic.AddInt32", "(*internal/sync.Mutex).Unlock", "internal/race.ReleaseMerge", "(*internal/sync.Mutex).unlockSlow", "internal/sync.fatal", "internal/sync.runtime_Semrelease", "sync/atomic.StoreUint32"], unfollowed := true, recurses := true, apart := false }
def TextPiecesSaid : Prop := textPiecesRow.holds Try.pinned (OpenSpec.ofChange textPiecesSpec)

/-- ITS FALSE NEIGHBOUR: 'it returns false'. Refute it at one input. -/
def textPiecesWrong : ChangeSpec := { name := "textPieces", fn := fun _ => fun
  | [d1, d2, d3, d4] => { results := [.lit (.bool false)], args := [d1, d2, d3, d4] }
  | _ => none }
def TextPiecesWrongFalsely : Prop := textPiecesRow.holds Try.pinned (OpenSpec.ofChange textPiecesWrong)

/-- 'scholiastlaw01.TextScript': WHATEVER THE INPUT: true; the input reads as it did. -/
def textScriptSpec : ChangeSpec := { name := "textScript", fn := fun _ => fun
  | [d1, d2] => { results := [.lit (.bool true)], args := [d1, d2] }
  | _ => none }
def textScriptRow : OpenClaim := { program := "ytcbimnmpdpkefaa", sum := "d3d03a9a832934422f86844a1fc74f6a851628777c13fd8fe3e44e69a19abca9", func := "scholiast/scholiastlaw01.TextScript", spec := "textScript", inPlace := ["internal/abi.NoEscape", "internal/bytealg.MakeNoZero", "sync/atomic.LoadUint32", "(*internal/sync.Mutex).Lock", "internal/race.Disable", "sync/atomic.CompareAndSwapInt32", "internal/race.Enable", "internal/race.Acquire", "(*internal/sync.Mutex).lockSlow", "internal/sync.runtime_canSpin", "internal/sync.runtime_doSpin", "internal/sync.throw", "internal/sync.runtime_nanotime", "internal/sync.runtime_SemacquireMutex", "sync/atomic.AddInt32", "(*internal/sync.Mutex).Unlock", "internal/race.ReleaseMerge", "(*internal/sync.Mutex).unlockSlow", "internal/sync.fatal", "internal/sync.runtime_Semrelease", "sync/atomic.StoreUint32"], unfollowed := true, recurses := true, apart := false }
def TextScriptSaid : Prop := textScriptRow.holds Try.pinned (OpenSpec.ofChange textScriptSpec)

/-- ITS FALSE NEIGHBOUR: 'it returns false'. Refute it at one input. -/
def textScriptWrong : ChangeSpec := { name := "textScript", fn := fun _ => fun
  | [d1, d2] => { results := [.lit (.bool false)], args := [d1, d2] }
  | _ => none }
def TextScriptWrongFalsely : Prop := textScriptRow.holds Try.pinned (OpenSpec.ofChange textScriptWrong)

/- THE SECOND FORM. 'bulk': how many values and letters a reading holds, each counted each time it is reached (what is shared counts as often as it is met; a slice's spare places count too). A statement '..UptoSaid' is the law's where the arguments, and the package variables that the reading takes, are together of bulk at most 1048576: NARROWER than '..Said'. Prove '..Said' where nothing that the law and all that it calls make is longer than what came in: it says more and counts as full. Else prove '..UptoSaid'. A law counts once. -/
mutual
def uptoBulk {H : Type} : DataW H → Nat
  | .lit (.string bytes) => bytes.length + 1
  | .lit _ => 1
  | .nil => 1
  | .ptr d => uptoBulk d + 1
  | .slice elems spare => uptoBulkAll elems + uptoBulkAll spare + 1
  | .agg parts => uptoBulkAll parts + 1
  | .iface _ d => uptoBulk d + 1
  | .map entries => uptoBulkEntries entries + 1
  | .held _ => 1
def uptoBulkAll {H : Type} : List (DataW H) → Nat
  | [] => 0
  | d :: r => uptoBulk d + uptoBulkAll r
def uptoBulkEntries {H : Type} : List (Lit × DataW H) → Nat
  | [] => 0
  | x :: r => uptoBulkEntry x + uptoBulkEntries r
def uptoBulkEntry {H : Type} : Lit × DataW H → Nat
  | (.string bytes, d) => bytes.length + uptoBulk d + 1
  | (_, d) => uptoBulk d + 1
 end
def uptoSmall : (H : Type) → List (DataW H) → Bool := fun _ ds => decide (uptoBulkAll ds ≤ 1048576)
def OpenSpec.upto (s : _root_.Go.ChangeSpec) : _root_.Go.OpenSpec := { _root_.Go.OpenSpec.ofChange s with cond := some uptoSmall }

/-- 'scholiastlaw01.TextSingly', WHERE WHAT IT READS IS OF BULK AT MOST 1048576: true; the input reads as it did. -/
def textSinglyUptoRow : OpenClaim := { program := "ytcbimnmpdpkefaa", sum := "d3d03a9a832934422f86844a1fc74f6a851628777c13fd8fe3e44e69a19abca9", func := "scholiast/scholiastlaw01.TextSingly", spec := "textSingly", inPlace := ["internal/abi.NoEscape", "internal/bytealg.MakeNoZero"], apart := false, narrowed := true }
def TextSinglyUptoSaid : Prop := textSinglyUptoRow.holds Try.pinned (OpenSpec.upto textSinglySpec)

/-- 'scholiastlaw01.TextPieces', WHERE WHAT IT READS IS OF BULK AT MOST 1048576: true; the input reads as it did. -/
def textPiecesUptoRow : OpenClaim := { program := "ytcbimnmpdpkefaa", sum := "d3d03a9a832934422f86844a1fc74f6a851628777c13fd8fe3e44e69a19abca9", func := "scholiast/scholiastlaw01.TextPieces", spec := "textPieces", inPlace := ["internal/abi.NoEscape", "internal/bytealg.MakeNoZero", "sync/atomic.LoadUint32", "(*internal/sync.Mutex).Lock", "internal/race.Disable", "sync/atomic.CompareAndSwapInt32", "internal/race.Enable", "internal/race.Acquire", "(*internal/sync.Mutex).lockSlow", "internal/sync.runtime_canSpin", "internal/sync.runtime_doSpin", "internal/sync.throw", "internal/sync.runtime_nanotime", "internal/sync.runtime_SemacquireMutex", "sync/atomic.AddInt32", "(*internal/sync.Mutex).Unlock", "internal/race.ReleaseMerge", "(*internal/sync.Mutex).unlockSlow", "internal/sync.fatal", "internal/sync.runtime_Semrelease", "sync/atomic.StoreUint32"], unfollowed := true, recurses := true, apart := false, narrowed := true }
def TextPiecesUptoSaid : Prop := textPiecesUptoRow.holds Try.pinned (OpenSpec.upto textPiecesSpec)

/-- 'scholiastlaw01.TextScript', WHERE WHAT IT READS IS OF BULK AT MOST 1048576: true; the input reads as it did. -/
def textScriptUptoRow : OpenClaim := { program := "ytcbimnmpdpkefaa", sum := "d3d03a9a832934422f86844a1fc74f6a851628777c13fd8fe3e44e69a19abca9", func := "scholiast/scholiastlaw01.TextScript", spec := "textScript", inPlace := ["internal/abi.NoEscape", "internal/bytealg.MakeNoZero", "sync/atomic.LoadUint32", "(*internal/sync.Mutex).Lock", "internal/race.Disable", "sync/atomic.CompareAndSwapInt32", "internal/race.Enable", "internal/race.Acquire", "(*internal/sync.Mutex).lockSlow", "internal/sync.runtime_canSpin", "internal/sync.runtime_doSpin", "internal/sync.throw", "internal/sync.runtime_nanotime", "internal/sync.runtime_SemacquireMutex", "sync/atomic.AddInt32", "(*internal/sync.Mutex).Unlock", "internal/race.ReleaseMerge", "(*internal/sync.Mutex).unlockSlow", "internal/sync.fatal", "internal/sync.runtime_Semrelease", "sync/atomic.StoreUint32"], unfollowed := true, recurses := true, apart := false, narrowed := true }
def TextScriptUptoSaid : Prop := textScriptUptoRow.holds Try.pinned (OpenSpec.upto textScriptSpec)

end Rows
end Go.Proofs.Ytcbimnmpdpkefaa
