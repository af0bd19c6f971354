/-
  No cell of these rows narrows 'for every input' (looked for: loops, veiled, ifaces, maps, wideKeys, modest, calm, conditions, laid).
  DERIVED. THE GIVEN ROWS OF THIS SEAT. 8 by the template 'for every input the law returns true; each argument reads behind the call as it read before'; 0 by the template 'total and deterministic' (their statements: YthmcoaadigaddaaTotals.lean).
  GIVEN WITH THE SEED: the statements are not yours to turn. If you find one false, say at which input.
  Laid BY PROGRAM, IN A SANDBOX (cutbox-rows.mjs): the forced cells as the released guide's own fill.sh prints them over the translation 98d5a74c8c9c5a3e… (all of the seat's roots in one cut). By AI agents, Wed Nov 11 2026. No macro, syntax, notation, axiom, sorry.
-/
import Derived.Test.YthmcoaadigaddaaChecked
import GoSem.Claim
import GoSem.ClaimJoined
import GoSem.ClaimMapViews
import Derived.JoinedTies
import Derived.KernelRfl
namespace Go.Proofs.Ythmcoaadigaddaa
/- THE CELL 'sum', in the pinned program and in every row, IS THE sha256 OF THE DUMP (.gsa) THAT YthmcoaadigaddaaProg.lean LOADS. Nothing in Lean hashes anything: it is a label: what it is worth is what the hold of that sum in a sandbox is worth. -/
noncomputable def Try.pinned : Pinned := { name := "ythmcoaadigaddaa", sum := "98d5a74c8c9c5a3e10996953e399bb3912d624eac4eea36cb9e43a39a6f0e3e1", checked := Try.checked }
namespace Rows
def none {H : Type} : Left H := { results := [], args := [] }

/-- 'pyxislaw12.WrapWraps': WHATEVER THE INPUT: true; the input reads as it did. -/
def wrapWrapsSpec : ChangeSpec := { name := "wrapWraps", fn := fun _ => fun
  | [d1, d2] => { results := [.lit (.bool true)], args := [d1, d2] }
  | _ => none }
def wrapWrapsRow : OpenClaim := { program := "ythmcoaadigaddaa", sum := "98d5a74c8c9c5a3e10996953e399bb3912d624eac4eea36cb9e43a39a6f0e3e1", func := "pyxis/pyxislaw12.WrapWraps", spec := "wrapWraps", apart := false }
def WrapWrapsSaid : Prop := wrapWrapsRow.holds Try.pinned (OpenSpec.ofChange wrapWrapsSpec)

/-- ITS FALSE NEIGHBOUR: 'it returns false'. Refute it at one input. -/
def wrapWrapsWrong : ChangeSpec := { name := "wrapWraps", fn := fun _ => fun
  | [d1, d2] => { results := [.lit (.bool false)], args := [d1, d2] }
  | _ => none }
def WrapWrapsWrongFalsely : Prop := wrapWrapsRow.holds Try.pinned (OpenSpec.ofChange wrapWrapsWrong)

/-- 'pyxislaw12.WrapUnwraps': WHATEVER THE INPUT: true; the input reads as it did. -/
def wrapUnwrapsSpec : ChangeSpec := { name := "wrapUnwraps", fn := fun _ => fun
  | [d1, d2] => { results := [.lit (.bool true)], args := [d1, d2] }
  | _ => none }
def wrapUnwrapsRow : OpenClaim := { program := "ythmcoaadigaddaa", sum := "98d5a74c8c9c5a3e10996953e399bb3912d624eac4eea36cb9e43a39a6f0e3e1", func := "pyxis/pyxislaw12.WrapUnwraps", spec := "wrapUnwraps", inPlace := ["sync/atomic.LoadUint32", "(*internal/sync.Mutex).Lock", "internal/race.Disable", "sync/atomic.CompareAndSwapInt32", "internal/race.Enable", "internal/race.Acquire", "(*internal/sync.Mutex).lockSlow", "internal/sync.runtime_canSpin", "internal/sync.runtime_doSpin", "internal/sync.throw", "internal/sync.runtime_nanotime", "internal/sync.runtime_SemacquireMutex", "sync/atomic.AddInt32", "(*internal/sync.Mutex).Unlock", "internal/race.ReleaseMerge", "(*internal/sync.Mutex).unlockSlow", "internal/sync.fatal", "internal/sync.runtime_Semrelease", "sync/atomic.StoreUint32"], unfollowed := true, recurses := true, apart := false }
def WrapUnwrapsSaid : Prop := wrapUnwrapsRow.holds Try.pinned (OpenSpec.ofChange wrapUnwrapsSpec)

/-- ITS FALSE NEIGHBOUR: 'it returns false'. Refute it at one input. -/
def wrapUnwrapsWrong : ChangeSpec := { name := "wrapUnwraps", fn := fun _ => fun
  | [d1, d2] => { results := [.lit (.bool false)], args := [d1, d2] }
  | _ => none }
def WrapUnwrapsWrongFalsely : Prop := wrapUnwrapsRow.holds Try.pinned (OpenSpec.ofChange wrapUnwrapsWrong)

/-- 'pyxislaw12.WrapValues': WHATEVER THE INPUT: true; the input reads as it did. -/
def wrapValuesSpec : ChangeSpec := { name := "wrapValues", fn := fun _ => fun
  | [d1, d2] => { results := [.lit (.bool true)], args := [d1, d2] }
  | _ => none }
def wrapValuesRow : OpenClaim := { program := "ythmcoaadigaddaa", sum := "98d5a74c8c9c5a3e10996953e399bb3912d624eac4eea36cb9e43a39a6f0e3e1", func := "pyxis/pyxislaw12.WrapValues", spec := "wrapValues", inPlace := ["sync/atomic.LoadUint32", "(*internal/sync.Mutex).Lock", "internal/race.Disable", "sync/atomic.CompareAndSwapInt32", "internal/race.Enable", "internal/race.Acquire", "(*internal/sync.Mutex).lockSlow", "internal/sync.runtime_canSpin", "internal/sync.runtime_doSpin", "internal/sync.throw", "internal/sync.runtime_nanotime", "internal/sync.runtime_SemacquireMutex", "sync/atomic.AddInt32", "(*internal/sync.Mutex).Unlock", "internal/race.ReleaseMerge", "(*internal/sync.Mutex).unlockSlow", "internal/sync.fatal", "internal/sync.runtime_Semrelease", "sync/atomic.StoreUint32"], unfollowed := true, recurses := true, apart := false }
def WrapValuesSaid : Prop := wrapValuesRow.holds Try.pinned (OpenSpec.ofChange wrapValuesSpec)

/-- ITS FALSE NEIGHBOUR: 'it returns false'. Refute it at one input. -/
def wrapValuesWrong : ChangeSpec := { name := "wrapValues", fn := fun _ => fun
  | [d1, d2] => { results := [.lit (.bool false)], args := [d1, d2] }
  | _ => none }
def WrapValuesWrongFalsely : Prop := wrapValuesRow.holds Try.pinned (OpenSpec.ofChange wrapValuesWrong)

/-- 'pyxislaw12.WrapBack': WHATEVER THE INPUT: true; the input reads as it did. -/
def wrapBackSpec : ChangeSpec := { name := "wrapBack", fn := fun _ => fun
  | [d1, d2] => { results := [.lit (.bool true)], args := [d1, d2] }
  | _ => none }
def wrapBackRow : OpenClaim := { program := "ythmcoaadigaddaa", sum := "98d5a74c8c9c5a3e10996953e399bb3912d624eac4eea36cb9e43a39a6f0e3e1", func := "pyxis/pyxislaw12.WrapBack", spec := "wrapBack", inPlace := ["sync/atomic.LoadUint32", "(*internal/sync.Mutex).Lock", "internal/race.Disable", "sync/atomic.CompareAndSwapInt32", "internal/race.Enable", "internal/race.Acquire", "(*internal/sync.Mutex).lockSlow", "internal/sync.runtime_canSpin", "internal/sync.runtime_doSpin", "internal/sync.throw", "internal/sync.runtime_nanotime", "internal/sync.runtime_SemacquireMutex", "sync/atomic.AddInt32", "(*internal/sync.Mutex).Unlock", "internal/race.ReleaseMerge", "(*internal/sync.Mutex).unlockSlow", "internal/sync.fatal", "internal/sync.runtime_Semrelease", "sync/atomic.StoreUint32"], unfollowed := true, recurses := true, apart := false }
def WrapBackSaid : Prop := wrapBackRow.holds Try.pinned (OpenSpec.ofChange wrapBackSpec)

/-- ITS FALSE NEIGHBOUR: 'it returns false'. Refute it at one input. -/
def wrapBackWrong : ChangeSpec := { name := "wrapBack", fn := fun _ => fun
  | [d1, d2] => { results := [.lit (.bool false)], args := [d1, d2] }
  | _ => none }
def WrapBackWrongFalsely : Prop := wrapBackRow.holds Try.pinned (OpenSpec.ofChange wrapBackWrong)

/-- 'pyxislaw07.CtrNext': WHATEVER THE INPUT: true; the input reads as it did. -/
def ctrNextSpec : ChangeSpec := { name := "ctrNext", fn := fun _ => fun
  | [d1, d2, d3] => { results := [.lit (.bool true)], args := [d1, d2, d3] }
  | _ => none }
def ctrNextRow : OpenClaim := { program := "ythmcoaadigaddaa", sum := "98d5a74c8c9c5a3e10996953e399bb3912d624eac4eea36cb9e43a39a6f0e3e1", func := "pyxis/pyxislaw07.CtrNext", spec := "ctrNext", unfollowed := true, recurses := true, apart := false }
def CtrNextSaid : Prop := ctrNextRow.holds Try.pinned (OpenSpec.ofChange ctrNextSpec)

/-- ITS FALSE NEIGHBOUR: 'it returns false'. Refute it at one input. -/
def ctrNextWrong : ChangeSpec := { name := "ctrNext", fn := fun _ => fun
  | [d1, d2, d3] => { results := [.lit (.bool false)], args := [d1, d2, d3] }
  | _ => none }
def CtrNextWrongFalsely : Prop := ctrNextRow.holds Try.pinned (OpenSpec.ofChange ctrNextWrong)

/-- 'pyxislaw07.CtrXors': WHATEVER THE INPUT: true; the input reads as it did. -/
def ctrXorsSpec : ChangeSpec := { name := "ctrXors", fn := fun _ => fun
  | [d1, d2, d3] => { results := [.lit (.bool true)], args := [d1, d2, d3] }
  | _ => none }
def ctrXorsRow : OpenClaim := { program := "ythmcoaadigaddaa", sum := "98d5a74c8c9c5a3e10996953e399bb3912d624eac4eea36cb9e43a39a6f0e3e1", func := "pyxis/pyxislaw07.CtrXors", spec := "ctrXors", unfollowed := true, recurses := true, apart := false }
def CtrXorsSaid : Prop := ctrXorsRow.holds Try.pinned (OpenSpec.ofChange ctrXorsSpec)

/-- ITS FALSE NEIGHBOUR: 'it returns false'. Refute it at one input. -/
def ctrXorsWrong : ChangeSpec := { name := "ctrXors", fn := fun _ => fun
  | [d1, d2, d3] => { results := [.lit (.bool false)], args := [d1, d2, d3] }
  | _ => none }
def CtrXorsWrongFalsely : Prop := ctrXorsRow.holds Try.pinned (OpenSpec.ofChange ctrXorsWrong)

/-- 'pyxislaw07.CtrPieces': WHATEVER THE INPUT: true; the input reads as it did. -/
def ctrPiecesSpec : ChangeSpec := { name := "ctrPieces", fn := fun _ => fun
  | [d1, d2, d3] => { results := [.lit (.bool true)], args := [d1, d2, d3] }
  | _ => none }
def ctrPiecesRow : OpenClaim := { program := "ythmcoaadigaddaa", sum := "98d5a74c8c9c5a3e10996953e399bb3912d624eac4eea36cb9e43a39a6f0e3e1", func := "pyxis/pyxislaw07.CtrPieces", spec := "ctrPieces", unfollowed := true, recurses := true, apart := false }
def CtrPiecesSaid : Prop := ctrPiecesRow.holds Try.pinned (OpenSpec.ofChange ctrPiecesSpec)

/-- ITS FALSE NEIGHBOUR: 'it returns false'. Refute it at one input. -/
def ctrPiecesWrong : ChangeSpec := { name := "ctrPieces", fn := fun _ => fun
  | [d1, d2, d3] => { results := [.lit (.bool false)], args := [d1, d2, d3] }
  | _ => none }
def CtrPiecesWrongFalsely : Prop := ctrPiecesRow.holds Try.pinned (OpenSpec.ofChange ctrPiecesWrong)

/-- 'pyxislaw07.CtrBegins': WHATEVER THE INPUT: true; the input reads as it did. -/
def ctrBeginsSpec : ChangeSpec := { name := "ctrBegins", fn := fun _ => fun
  | [d1, d2, d3] => { results := [.lit (.bool true)], args := [d1, d2, d3] }
  | _ => none }
def ctrBeginsRow : OpenClaim := { program := "ythmcoaadigaddaa", sum := "98d5a74c8c9c5a3e10996953e399bb3912d624eac4eea36cb9e43a39a6f0e3e1", func := "pyxis/pyxislaw07.CtrBegins", spec := "ctrBegins", unfollowed := true, recurses := true, apart := false }
def CtrBeginsSaid : Prop := ctrBeginsRow.holds Try.pinned (OpenSpec.ofChange ctrBeginsSpec)

/-- ITS FALSE NEIGHBOUR: 'it returns false'. Refute it at one input. -/
def ctrBeginsWrong : ChangeSpec := { name := "ctrBegins", fn := fun _ => fun
  | [d1, d2, d3] => { results := [.lit (.bool false)], args := [d1, d2, d3] }
  | _ => none }
def CtrBeginsWrongFalsely : Prop := ctrBeginsRow.holds Try.pinned (OpenSpec.ofChange ctrBeginsWrong)

/- THE SECOND FORM. 'bulk': how many values and letters a reading holds, each counted each time it is reached (what is shared counts as often as it is met; a slice's spare places count too). A statement '..UptoSaid' is the law's where the arguments, and the package variables that the reading takes, are together of bulk at most 1048576: NARROWER than '..Said'. Prove '..Said' where nothing that the law and all that it calls make is longer than what came in: it says more and counts as full. Else prove '..UptoSaid'. A law counts once. -/
mutual
def uptoBulk {H : Type} : DataW H → Nat
  | .lit (.string bytes) => bytes.length + 1
  | .lit _ => 1
  | .nil => 1
  | .ptr d => uptoBulk d + 1
  | .slice elems spare => uptoBulkAll elems + uptoBulkAll spare + 1
  | .agg parts => uptoBulkAll parts + 1
  | .iface _ d => uptoBulk d + 1
  | .map entries => uptoBulkEntries entries + 1
  | .held _ => 1
def uptoBulkAll {H : Type} : List (DataW H) → Nat
  | [] => 0
  | d :: r => uptoBulk d + uptoBulkAll r
def uptoBulkEntries {H : Type} : List (Lit × DataW H) → Nat
  | [] => 0
  | x :: r => uptoBulkEntry x + uptoBulkEntries r
def uptoBulkEntry {H : Type} : Lit × DataW H → Nat
  | (.string bytes, d) => bytes.length + uptoBulk d + 1
  | (_, d) => uptoBulk d + 1
 end
def uptoSmall : (H : Type) → List (DataW H) → Bool := fun _ ds => decide (uptoBulkAll ds ≤ 1048576)
def OpenSpec.upto (s : _root_.Go.ChangeSpec) : _root_.Go.OpenSpec := { _root_.Go.OpenSpec.ofChange s with cond := some uptoSmall }

/-- 'pyxislaw12.WrapWraps', WHERE WHAT IT READS IS OF BULK AT MOST 1048576: true; the input reads as it did. -/
def wrapWrapsUptoRow : OpenClaim := { program := "ythmcoaadigaddaa", sum := "98d5a74c8c9c5a3e10996953e399bb3912d624eac4eea36cb9e43a39a6f0e3e1", func := "pyxis/pyxislaw12.WrapWraps", spec := "wrapWraps", apart := false, narrowed := true }
def WrapWrapsUptoSaid : Prop := wrapWrapsUptoRow.holds Try.pinned (OpenSpec.upto wrapWrapsSpec)

/-- 'pyxislaw12.WrapUnwraps', WHERE WHAT IT READS IS OF BULK AT MOST 1048576: true; the input reads as it did. -/
def wrapUnwrapsUptoRow : OpenClaim := { program := "ythmcoaadigaddaa", sum := "98d5a74c8c9c5a3e10996953e399bb3912d624eac4eea36cb9e43a39a6f0e3e1", func := "pyxis/pyxislaw12.WrapUnwraps", spec := "wrapUnwraps", inPlace := ["sync/atomic.LoadUint32", "(*internal/sync.Mutex).Lock", "internal/race.Disable", "sync/atomic.CompareAndSwapInt32", "internal/race.Enable", "internal/race.Acquire", "(*internal/sync.Mutex).lockSlow", "internal/sync.runtime_canSpin", "internal/sync.runtime_doSpin", "internal/sync.throw", "internal/sync.runtime_nanotime", "internal/sync.runtime_SemacquireMutex", "sync/atomic.AddInt32", "(*internal/sync.Mutex).Unlock", "internal/race.ReleaseMerge", "(*internal/sync.Mutex).unlockSlow", "internal/sync.fatal", "internal/sync.runtime_Semrelease", "sync/atomic.StoreUint32"], unfollowed := true, recurses := true, apart := false, narrowed := true }
def WrapUnwrapsUptoSaid : Prop := wrapUnwrapsUptoRow.holds Try.pinned (OpenSpec.upto wrapUnwrapsSpec)

/-- 'pyxislaw12.WrapValues', WHERE WHAT IT READS IS OF BULK AT MOST 1048576: true; the input reads as it did. -/
def wrapValuesUptoRow : OpenClaim := { program := "ythmcoaadigaddaa", sum := "98d5a74c8c9c5a3e10996953e399bb3912d624eac4eea36cb9e43a39a6f0e3e1", func := "pyxis/pyxislaw12.WrapValues", spec := "wrapValues", inPlace := ["sync/atomic.LoadUint32", "(*internal/sync.Mutex).Lock", "internal/race.Disable", "sync/atomic.CompareAndSwapInt32", "internal/race.Enable", "internal/race.Acquire", "(*internal/sync.Mutex).lockSlow", "internal/sync.runtime_canSpin", "internal/sync.runtime_doSpin", "internal/sync.throw", "internal/sync.runtime_nanotime", "internal/sync.runtime_SemacquireMutex", "sync/atomic.AddInt32", "(*internal/sync.Mutex).Unlock", "internal/race.ReleaseMerge", "(*internal/sync.Mutex).unlockSlow", "internal/sync.fatal", "internal/sync.runtime_Semrelease", "sync/atomic.StoreUint32"], unfollowed := true, recurses := true, apart := false, narrowed := true }
def WrapValuesUptoSaid : Prop := wrapValuesUptoRow.holds Try.pinned (OpenSpec.upto wrapValuesSpec)

/-- 'pyxislaw12.WrapBack', WHERE WHAT IT READS IS OF BULK AT MOST 1048576: true; the input reads as it did. -/
def wrapBackUptoRow : OpenClaim := { program := "ythmcoaadigaddaa", sum := "98d5a74c8c9c5a3e10996953e399bb3912d624eac4eea36cb9e43a39a6f0e3e1", func := "pyxis/pyxislaw12.WrapBack", spec := "wrapBack", inPlace := ["sync/atomic.LoadUint32", "(*internal/sync.Mutex).Lock", "internal/race.Disable", "sync/atomic.CompareAndSwapInt32", "internal/race.Enable", "internal/race.Acquire", "(*internal/sync.Mutex).lockSlow", "internal/sync.runtime_canSpin", "internal/sync.runtime_doSpin", "internal/sync.throw", "internal/sync.runtime_nanotime", "internal/sync.runtime_SemacquireMutex", "sync/atomic.AddInt32", "(*internal/sync.Mutex).Unlock", "internal/race.ReleaseMerge", "(*internal/sync.Mutex).unlockSlow", "internal/sync.fatal", "internal/sync.runtime_Semrelease", "sync/atomic.StoreUint32"], unfollowed := true, recurses := true, apart := false, narrowed := true }
def WrapBackUptoSaid : Prop := wrapBackUptoRow.holds Try.pinned (OpenSpec.upto wrapBackSpec)

/-- 'pyxislaw07.CtrNext', WHERE WHAT IT READS IS OF BULK AT MOST 1048576: true; the input reads as it did. -/
def ctrNextUptoRow : OpenClaim := { program := "ythmcoaadigaddaa", sum := "98d5a74c8c9c5a3e10996953e399bb3912d624eac4eea36cb9e43a39a6f0e3e1", func := "pyxis/pyxislaw07.CtrNext", spec := "ctrNext", unfollowed := true, recurses := true, apart := false, narrowed := true }
def CtrNextUptoSaid : Prop := ctrNextUptoRow.holds Try.pinned (OpenSpec.upto ctrNextSpec)

/-- 'pyxislaw07.CtrXors', WHERE WHAT IT READS IS OF BULK AT MOST 1048576: true; the input reads as it did. -/
def ctrXorsUptoRow : OpenClaim := { program := "ythmcoaadigaddaa", sum := "98d5a74c8c9c5a3e10996953e399bb3912d624eac4eea36cb9e43a39a6f0e3e1", func := "pyxis/pyxislaw07.CtrXors", spec := "ctrXors", unfollowed := true, recurses := true, apart := false, narrowed := true }
def CtrXorsUptoSaid : Prop := ctrXorsUptoRow.holds Try.pinned (OpenSpec.upto ctrXorsSpec)

/-- 'pyxislaw07.CtrPieces', WHERE WHAT IT READS IS OF BULK AT MOST 1048576: true; the input reads as it did. -/
def ctrPiecesUptoRow : OpenClaim := { program := "ythmcoaadigaddaa", sum := "98d5a74c8c9c5a3e10996953e399bb3912d624eac4eea36cb9e43a39a6f0e3e1", func := "pyxis/pyxislaw07.CtrPieces", spec := "ctrPieces", unfollowed := true, recurses := true, apart := false, narrowed := true }
def CtrPiecesUptoSaid : Prop := ctrPiecesUptoRow.holds Try.pinned (OpenSpec.upto ctrPiecesSpec)

/-- 'pyxislaw07.CtrBegins', WHERE WHAT IT READS IS OF BULK AT MOST 1048576: true; the input reads as it did. -/
def ctrBeginsUptoRow : OpenClaim := { program := "ythmcoaadigaddaa", sum := "98d5a74c8c9c5a3e10996953e399bb3912d624eac4eea36cb9e43a39a6f0e3e1", func := "pyxis/pyxislaw07.CtrBegins", spec := "ctrBegins", unfollowed := true, recurses := true, apart := false, narrowed := true }
def CtrBeginsUptoSaid : Prop := ctrBeginsUptoRow.holds Try.pinned (OpenSpec.upto ctrBeginsSpec)

end Rows
end Go.Proofs.Ythmcoaadigaddaa
