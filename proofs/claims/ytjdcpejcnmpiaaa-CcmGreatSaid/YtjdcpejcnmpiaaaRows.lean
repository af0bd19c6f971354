/-
  No cell of these rows narrows 'for every input' (looked for: loops, veiled, ifaces, maps, wideKeys, modest, calm, conditions, laid).
  DERIVED. THE GIVEN ROWS OF THIS SEAT. 15 by the template 'for every input the law returns true; each argument reads behind the call as it read before'; 0 by the template 'total and deterministic' (their statements: YtjdcpejcnmpiaaaTotals.lean).
  GIVEN WITH THE SEED: the statements are not yours to turn. If you find one false, say at which input.
  Laid BY PROGRAM, IN A SANDBOX (cutbox-rows.mjs): the forced cells as the released guide's own fill.sh prints them over the translation 0afe76b1dc18c81f… (all of the seat's roots in one cut). By AI agents, Wed Nov 11 2026. No macro, syntax, notation, axiom, sorry.
-/
import Derived.Test.YtjdcpejcnmpiaaaChecked
import GoSem.Claim
import GoSem.ClaimJoined
import GoSem.ClaimMapViews
import Derived.JoinedTies
import Derived.KernelRfl
namespace Go.Proofs.Ytjdcpejcnmpiaaa
/- THE CELL 'sum', in the pinned program and in every row, IS THE sha256 OF THE DUMP (.gsa) THAT YtjdcpejcnmpiaaaProg.lean LOADS. Nothing in Lean hashes anything: it is a label: what it is worth is what the hold of that sum in a sandbox is worth. -/
noncomputable def Try.pinned : Pinned := { name := "ytjdcpejcnmpiaaa", sum := "0afe76b1dc18c81f1abca0748c443c8307e132377173ab0828189bae3fe4b4ab", checked := Try.checked }
namespace Rows
def none {H : Type} : Left H := { results := [], args := [] }

/-- 'pyxislaw06.CbcPads': WHATEVER THE INPUT: true; the input reads as it did. -/
def cbcPadsSpec : ChangeSpec := { name := "cbcPads", fn := fun _ => fun
  | [d1, d2] => { results := [.lit (.bool true)], args := [d1, d2] }
  | _ => none }
def cbcPadsRow : OpenClaim := { program := "ytjdcpejcnmpiaaa", sum := "0afe76b1dc18c81f1abca0748c443c8307e132377173ab0828189bae3fe4b4ab", func := "pyxis/pyxislaw06.CbcPads", spec := "cbcPads", inPlace := ["internal/abi.NoEscape", "internal/bytealg.MakeNoZero", "sync/atomic.LoadUint32", "(*internal/sync.Mutex).Lock", "internal/race.Disable", "sync/atomic.CompareAndSwapInt32", "internal/race.Enable", "internal/race.Acquire", "(*internal/sync.Mutex).lockSlow", "internal/sync.runtime_canSpin", "internal/sync.runtime_doSpin", "internal/sync.throw", "internal/sync.runtime_nanotime", "internal/sync.runtime_SemacquireMutex", "sync/atomic.AddInt32", "(*internal/sync.Mutex).Unlock", "internal/race.ReleaseMerge", "(*internal/sync.Mutex).unlockSlow", "internal/sync.fatal", "internal/sync.runtime_Semrelease", "sync/atomic.StoreUint32"], unfollowed := true, recurses := true, apart := false }
def CbcPadsSaid : Prop := cbcPadsRow.holds Try.pinned (OpenSpec.ofChange cbcPadsSpec)

/-- ITS FALSE NEIGHBOUR: 'it returns false'. Refute it at one input. -/
def cbcPadsWrong : ChangeSpec := { name := "cbcPads", fn := fun _ => fun
  | [d1, d2] => { results := [.lit (.bool false)], args := [d1, d2] }
  | _ => none }
def CbcPadsWrongFalsely : Prop := cbcPadsRow.holds Try.pinned (OpenSpec.ofChange cbcPadsWrong)

/-- 'pyxislaw06.CbcChains': WHATEVER THE INPUT: true; the input reads as it did. -/
def cbcChainsSpec : ChangeSpec := { name := "cbcChains", fn := fun _ => fun
  | [d1, d2, d3] => { results := [.lit (.bool true)], args := [d1, d2, d3] }
  | _ => none }
def cbcChainsRow : OpenClaim := { program := "ytjdcpejcnmpiaaa", sum := "0afe76b1dc18c81f1abca0748c443c8307e132377173ab0828189bae3fe4b4ab", func := "pyxis/pyxislaw06.CbcChains", spec := "cbcChains", inPlace := ["internal/abi.NoEscape", "internal/bytealg.MakeNoZero", "sync/atomic.LoadUint32", "(*internal/sync.Mutex).Lock", "internal/race.Disable", "sync/atomic.CompareAndSwapInt32", "internal/race.Enable", "internal/race.Acquire", "(*internal/sync.Mutex).lockSlow", "internal/sync.runtime_canSpin", "internal/sync.runtime_doSpin", "internal/sync.throw", "internal/sync.runtime_nanotime", "internal/sync.runtime_SemacquireMutex", "sync/atomic.AddInt32", "(*internal/sync.Mutex).Unlock", "internal/race.ReleaseMerge", "(*internal/sync.Mutex).unlockSlow", "internal/sync.fatal", "internal/sync.runtime_Semrelease", "sync/atomic.StoreUint32"], unfollowed := true, recurses := true, apart := false }
def CbcChainsSaid : Prop := cbcChainsRow.holds Try.pinned (OpenSpec.ofChange cbcChainsSpec)

/-- ITS FALSE NEIGHBOUR: 'it returns false'. Refute it at one input. -/
def cbcChainsWrong : ChangeSpec := { name := "cbcChains", fn := fun _ => fun
  | [d1, d2, d3] => { results := [.lit (.bool false)], args := [d1, d2, d3] }
  | _ => none }
def CbcChainsWrongFalsely : Prop := cbcChainsRow.holds Try.pinned (OpenSpec.ofChange cbcChainsWrong)

/-- 'pyxislaw06.CbcSeals': WHATEVER THE INPUT: true; the input reads as it did. -/
def cbcSealsSpec : ChangeSpec := { name := "cbcSeals", fn := fun _ => fun
  | [d1, d2, d3] => { results := [.lit (.bool true)], args := [d1, d2, d3] }
  | _ => none }
def cbcSealsRow : OpenClaim := { program := "ytjdcpejcnmpiaaa", sum := "0afe76b1dc18c81f1abca0748c443c8307e132377173ab0828189bae3fe4b4ab", func := "pyxis/pyxislaw06.CbcSeals", spec := "cbcSeals", inPlace := ["internal/abi.NoEscape", "internal/bytealg.MakeNoZero", "sync/atomic.LoadUint32", "(*internal/sync.Mutex).Lock", "internal/race.Disable", "sync/atomic.CompareAndSwapInt32", "internal/race.Enable", "internal/race.Acquire", "(*internal/sync.Mutex).lockSlow", "internal/sync.runtime_canSpin", "internal/sync.runtime_doSpin", "internal/sync.throw", "internal/sync.runtime_nanotime", "internal/sync.runtime_SemacquireMutex", "sync/atomic.AddInt32", "(*internal/sync.Mutex).Unlock", "internal/race.ReleaseMerge", "(*internal/sync.Mutex).unlockSlow", "internal/sync.fatal", "internal/sync.runtime_Semrelease", "sync/atomic.StoreUint32"], unfollowed := true, recurses := true, apart := false }
def CbcSealsSaid : Prop := cbcSealsRow.holds Try.pinned (OpenSpec.ofChange cbcSealsSpec)

/-- ITS FALSE NEIGHBOUR: 'it returns false'. Refute it at one input. -/
def cbcSealsWrong : ChangeSpec := { name := "cbcSeals", fn := fun _ => fun
  | [d1, d2, d3] => { results := [.lit (.bool false)], args := [d1, d2, d3] }
  | _ => none }
def CbcSealsWrongFalsely : Prop := cbcSealsRow.holds Try.pinned (OpenSpec.ofChange cbcSealsWrong)

/-- 'pyxislaw06.CbcOpens': WHATEVER THE INPUT: true; the input reads as it did. -/
def cbcOpensSpec : ChangeSpec := { name := "cbcOpens", fn := fun _ => fun
  | [d1, d2, d3] => { results := [.lit (.bool true)], args := [d1, d2, d3] }
  | _ => none }
def cbcOpensRow : OpenClaim := { program := "ytjdcpejcnmpiaaa", sum := "0afe76b1dc18c81f1abca0748c443c8307e132377173ab0828189bae3fe4b4ab", func := "pyxis/pyxislaw06.CbcOpens", spec := "cbcOpens", inPlace := ["internal/abi.NoEscape", "internal/bytealg.MakeNoZero", "sync/atomic.LoadUint32", "(*internal/sync.Mutex).Lock", "internal/race.Disable", "sync/atomic.CompareAndSwapInt32", "internal/race.Enable", "internal/race.Acquire", "(*internal/sync.Mutex).lockSlow", "internal/sync.runtime_canSpin", "internal/sync.runtime_doSpin", "internal/sync.throw", "internal/sync.runtime_nanotime", "internal/sync.runtime_SemacquireMutex", "sync/atomic.AddInt32", "(*internal/sync.Mutex).Unlock", "internal/race.ReleaseMerge", "(*internal/sync.Mutex).unlockSlow", "internal/sync.fatal", "internal/sync.runtime_Semrelease", "sync/atomic.StoreUint32"], unfollowed := true, recurses := true, apart := false }
def CbcOpensSaid : Prop := cbcOpensRow.holds Try.pinned (OpenSpec.ofChange cbcOpensSpec)

/-- ITS FALSE NEIGHBOUR: 'it returns false'. Refute it at one input. -/
def cbcOpensWrong : ChangeSpec := { name := "cbcOpens", fn := fun _ => fun
  | [d1, d2, d3] => { results := [.lit (.bool false)], args := [d1, d2, d3] }
  | _ => none }
def CbcOpensWrongFalsely : Prop := cbcOpensRow.holds Try.pinned (OpenSpec.ofChange cbcOpensWrong)

/-- 'pyxislaw06.CbcMacs': WHATEVER THE INPUT: true; the input reads as it did. -/
def cbcMacsSpec : ChangeSpec := { name := "cbcMacs", fn := fun _ => fun
  | [d1, d2] => { results := [.lit (.bool true)], args := [d1, d2] }
  | _ => none }
def cbcMacsRow : OpenClaim := { program := "ytjdcpejcnmpiaaa", sum := "0afe76b1dc18c81f1abca0748c443c8307e132377173ab0828189bae3fe4b4ab", func := "pyxis/pyxislaw06.CbcMacs", spec := "cbcMacs", inPlace := ["internal/abi.NoEscape", "internal/bytealg.MakeNoZero", "sync/atomic.LoadUint32", "(*internal/sync.Mutex).Lock", "internal/race.Disable", "sync/atomic.CompareAndSwapInt32", "internal/race.Enable", "internal/race.Acquire", "(*internal/sync.Mutex).lockSlow", "internal/sync.runtime_canSpin", "internal/sync.runtime_doSpin", "internal/sync.throw", "internal/sync.runtime_nanotime", "internal/sync.runtime_SemacquireMutex", "sync/atomic.AddInt32", "(*internal/sync.Mutex).Unlock", "internal/race.ReleaseMerge", "(*internal/sync.Mutex).unlockSlow", "internal/sync.fatal", "internal/sync.runtime_Semrelease", "sync/atomic.StoreUint32"], unfollowed := true, recurses := true, apart := false }
def CbcMacsSaid : Prop := cbcMacsRow.holds Try.pinned (OpenSpec.ofChange cbcMacsSpec)

/-- ITS FALSE NEIGHBOUR: 'it returns false'. Refute it at one input. -/
def cbcMacsWrong : ChangeSpec := { name := "cbcMacs", fn := fun _ => fun
  | [d1, d2] => { results := [.lit (.bool false)], args := [d1, d2] }
  | _ => none }
def CbcMacsWrongFalsely : Prop := cbcMacsRow.holds Try.pinned (OpenSpec.ofChange cbcMacsWrong)

/-- 'pyxislaw22.RecipFills': WHATEVER THE INPUT: true; the input reads as it did. -/
def recipFillsSpec : ChangeSpec := { name := "recipFills", fn := fun _ => fun
  | [d] => { results := [.lit (.bool true)], args := [d] }
  | _ => none }
def recipFillsRow : OpenClaim := { program := "ytjdcpejcnmpiaaa", sum := "0afe76b1dc18c81f1abca0748c443c8307e132377173ab0828189bae3fe4b4ab", func := "pyxis/pyxislaw22.RecipFills", spec := "recipFills", inPlace := ["sync/atomic.LoadUint32", "(*internal/sync.Mutex).Lock", "internal/race.Disable", "sync/atomic.CompareAndSwapInt32", "internal/race.Enable", "internal/race.Acquire", "(*internal/sync.Mutex).lockSlow", "internal/sync.runtime_canSpin", "internal/sync.runtime_doSpin", "internal/sync.throw", "internal/sync.runtime_nanotime", "internal/sync.runtime_SemacquireMutex", "sync/atomic.AddInt32", "(*internal/sync.Mutex).Unlock", "internal/race.ReleaseMerge", "(*internal/sync.Mutex).unlockSlow", "internal/sync.fatal", "internal/sync.runtime_Semrelease", "sync/atomic.StoreUint32"], unfollowed := true, recurses := true, apart := false }
def RecipFillsSaid : Prop := recipFillsRow.holds Try.pinned (OpenSpec.ofChange recipFillsSpec)

/-- ITS FALSE NEIGHBOUR: 'it returns false'. Refute it at one input. -/
def recipFillsWrong : ChangeSpec := { name := "recipFills", fn := fun _ => fun
  | [d] => { results := [.lit (.bool false)], args := [d] }
  | _ => none }
def RecipFillsWrongFalsely : Prop := recipFillsRow.holds Try.pinned (OpenSpec.ofChange recipFillsWrong)

/-- 'pyxislaw22.RecipLocks': WHATEVER THE INPUT: true; the input reads as it did. -/
def recipLocksSpec : ChangeSpec := { name := "recipLocks", fn := fun _ => fun
  | [d] => { results := [.lit (.bool true)], args := [d] }
  | _ => none }
def recipLocksRow : OpenClaim := { program := "ytjdcpejcnmpiaaa", sum := "0afe76b1dc18c81f1abca0748c443c8307e132377173ab0828189bae3fe4b4ab", func := "pyxis/pyxislaw22.RecipLocks", spec := "recipLocks", inPlace := ["sync/atomic.LoadUint32", "(*internal/sync.Mutex).Lock", "internal/race.Disable", "sync/atomic.CompareAndSwapInt32", "internal/race.Enable", "internal/race.Acquire", "(*internal/sync.Mutex).lockSlow", "internal/sync.runtime_canSpin", "internal/sync.runtime_doSpin", "internal/sync.throw", "internal/sync.runtime_nanotime", "internal/sync.runtime_SemacquireMutex", "sync/atomic.AddInt32", "(*internal/sync.Mutex).Unlock", "internal/race.ReleaseMerge", "(*internal/sync.Mutex).unlockSlow", "internal/sync.fatal", "internal/sync.runtime_Semrelease", "sync/atomic.StoreUint32"], unfollowed := true, recurses := true, apart := false }
def RecipLocksSaid : Prop := recipLocksRow.holds Try.pinned (OpenSpec.ofChange recipLocksSpec)

/-- ITS FALSE NEIGHBOUR: 'it returns false'. Refute it at one input. -/
def recipLocksWrong : ChangeSpec := { name := "recipLocks", fn := fun _ => fun
  | [d] => { results := [.lit (.bool false)], args := [d] }
  | _ => none }
def RecipLocksWrongFalsely : Prop := recipLocksRow.holds Try.pinned (OpenSpec.ofChange recipLocksWrong)

/-- 'pyxislaw22.RecipUnlocks': WHATEVER THE INPUT: true; the input reads as it did. -/
def recipUnlocksSpec : ChangeSpec := { name := "recipUnlocks", fn := fun _ => fun
  | [d1, d2, d3] => { results := [.lit (.bool true)], args := [d1, d2, d3] }
  | _ => none }
def recipUnlocksRow : OpenClaim := { program := "ytjdcpejcnmpiaaa", sum := "0afe76b1dc18c81f1abca0748c443c8307e132377173ab0828189bae3fe4b4ab", func := "pyxis/pyxislaw22.RecipUnlocks", spec := "recipUnlocks", inPlace := ["sync/atomic.LoadUint32", "(*internal/sync.Mutex).Lock", "internal/race.Disable", "sync/atomic.CompareAndSwapInt32", "internal/race.Enable", "internal/race.Acquire", "(*internal/sync.Mutex).lockSlow", "internal/sync.runtime_canSpin", "internal/sync.runtime_doSpin", "internal/sync.throw", "internal/sync.runtime_nanotime", "internal/sync.runtime_SemacquireMutex", "sync/atomic.AddInt32", "(*internal/sync.Mutex).Unlock", "internal/race.ReleaseMerge", "(*internal/sync.Mutex).unlockSlow", "internal/sync.fatal", "internal/sync.runtime_Semrelease", "sync/atomic.StoreUint32"], unfollowed := true, recurses := true, apart := false }
def RecipUnlocksSaid : Prop := recipUnlocksRow.holds Try.pinned (OpenSpec.ofChange recipUnlocksSpec)

/-- ITS FALSE NEIGHBOUR: 'it returns false'. Refute it at one input. -/
def recipUnlocksWrong : ChangeSpec := { name := "recipUnlocks", fn := fun _ => fun
  | [d1, d2, d3] => { results := [.lit (.bool false)], args := [d1, d2, d3] }
  | _ => none }
def RecipUnlocksWrongFalsely : Prop := recipUnlocksRow.holds Try.pinned (OpenSpec.ofChange recipUnlocksWrong)

/-- 'pyxislaw22.RecipNames': WHATEVER THE INPUT: true; the input reads as it did. -/
def recipNamesSpec : ChangeSpec := { name := "recipNames", fn := fun _ => fun
  | [d] => { results := [.lit (.bool true)], args := [d] }
  | _ => none }
def recipNamesRow : OpenClaim := { program := "ytjdcpejcnmpiaaa", sum := "0afe76b1dc18c81f1abca0748c443c8307e132377173ab0828189bae3fe4b4ab", func := "pyxis/pyxislaw22.RecipNames", spec := "recipNames", inPlace := ["sync/atomic.LoadUint32", "(*internal/sync.Mutex).Lock", "internal/race.Disable", "sync/atomic.CompareAndSwapInt32", "internal/race.Enable", "internal/race.Acquire", "(*internal/sync.Mutex).lockSlow", "internal/sync.runtime_canSpin", "internal/sync.runtime_doSpin", "internal/sync.throw", "internal/sync.runtime_nanotime", "internal/sync.runtime_SemacquireMutex", "sync/atomic.AddInt32", "(*internal/sync.Mutex).Unlock", "internal/race.ReleaseMerge", "(*internal/sync.Mutex).unlockSlow", "internal/sync.fatal", "internal/sync.runtime_Semrelease", "sync/atomic.StoreUint32"], unfollowed := true, recurses := true, apart := false }
def RecipNamesSaid : Prop := recipNamesRow.holds Try.pinned (OpenSpec.ofChange recipNamesSpec)

/-- ITS FALSE NEIGHBOUR: 'it returns false'. Refute it at one input. -/
def recipNamesWrong : ChangeSpec := { name := "recipNames", fn := fun _ => fun
  | [d] => { results := [.lit (.bool false)], args := [d] }
  | _ => none }
def RecipNamesWrongFalsely : Prop := recipNamesRow.holds Try.pinned (OpenSpec.ofChange recipNamesWrong)

/-- 'pyxislaw10.CcmSeals': WHATEVER THE INPUT: true; the input reads as it did. -/
def ccmSealsSpec : ChangeSpec := { name := "ccmSeals", fn := fun _ => fun
  | [d1, d2] => { results := [.lit (.bool true)], args := [d1, d2] }
  | _ => none }
def ccmSealsRow : OpenClaim := { program := "ytjdcpejcnmpiaaa", sum := "0afe76b1dc18c81f1abca0748c443c8307e132377173ab0828189bae3fe4b4ab", func := "pyxis/pyxislaw10.CcmSeals", spec := "ccmSeals", inPlace := ["internal/abi.NoEscape", "internal/bytealg.MakeNoZero"], unfollowed := true, recurses := true, apart := false }
def CcmSealsSaid : Prop := ccmSealsRow.holds Try.pinned (OpenSpec.ofChange ccmSealsSpec)

/-- ITS FALSE NEIGHBOUR: 'it returns false'. Refute it at one input. -/
def ccmSealsWrong : ChangeSpec := { name := "ccmSeals", fn := fun _ => fun
  | [d1, d2] => { results := [.lit (.bool false)], args := [d1, d2] }
  | _ => none }
def CcmSealsWrongFalsely : Prop := ccmSealsRow.holds Try.pinned (OpenSpec.ofChange ccmSealsWrong)

/-- 'pyxislaw10.CcmOpens': WHATEVER THE INPUT: true; the input reads as it did. -/
def ccmOpensSpec : ChangeSpec := { name := "ccmOpens", fn := fun _ => fun
  | [d1, d2] => { results := [.lit (.bool true)], args := [d1, d2] }
  | _ => none }
def ccmOpensRow : OpenClaim := { program := "ytjdcpejcnmpiaaa", sum := "0afe76b1dc18c81f1abca0748c443c8307e132377173ab0828189bae3fe4b4ab", func := "pyxis/pyxislaw10.CcmOpens", spec := "ccmOpens", inPlace := ["internal/abi.NoEscape", "internal/bytealg.MakeNoZero"], unfollowed := true, recurses := true, apart := false }
def CcmOpensSaid : Prop := ccmOpensRow.holds Try.pinned (OpenSpec.ofChange ccmOpensSpec)

/-- ITS FALSE NEIGHBOUR: 'it returns false'. Refute it at one input. -/
def ccmOpensWrong : ChangeSpec := { name := "ccmOpens", fn := fun _ => fun
  | [d1, d2] => { results := [.lit (.bool false)], args := [d1, d2] }
  | _ => none }
def CcmOpensWrongFalsely : Prop := ccmOpensRow.holds Try.pinned (OpenSpec.ofChange ccmOpensWrong)

/-- 'pyxislaw10.CcmTags': WHATEVER THE INPUT: true; the input reads as it did. -/
def ccmTagsSpec : ChangeSpec := { name := "ccmTags", fn := fun _ => fun
  | [d1, d2] => { results := [.lit (.bool true)], args := [d1, d2] }
  | _ => none }
def ccmTagsRow : OpenClaim := { program := "ytjdcpejcnmpiaaa", sum := "0afe76b1dc18c81f1abca0748c443c8307e132377173ab0828189bae3fe4b4ab", func := "pyxis/pyxislaw10.CcmTags", spec := "ccmTags", inPlace := ["internal/abi.NoEscape", "internal/bytealg.MakeNoZero"], unfollowed := true, recurses := true, apart := false }
def CcmTagsSaid : Prop := ccmTagsRow.holds Try.pinned (OpenSpec.ofChange ccmTagsSpec)

/-- ITS FALSE NEIGHBOUR: 'it returns false'. Refute it at one input. -/
def ccmTagsWrong : ChangeSpec := { name := "ccmTags", fn := fun _ => fun
  | [d1, d2] => { results := [.lit (.bool false)], args := [d1, d2] }
  | _ => none }
def CcmTagsWrongFalsely : Prop := ccmTagsRow.holds Try.pinned (OpenSpec.ofChange ccmTagsWrong)

/-- 'pyxislaw10.CcmBack': WHATEVER THE INPUT: true; the input reads as it did. -/
def ccmBackSpec : ChangeSpec := { name := "ccmBack", fn := fun _ => fun
  | [d1, d2] => { results := [.lit (.bool true)], args := [d1, d2] }
  | _ => none }
def ccmBackRow : OpenClaim := { program := "ytjdcpejcnmpiaaa", sum := "0afe76b1dc18c81f1abca0748c443c8307e132377173ab0828189bae3fe4b4ab", func := "pyxis/pyxislaw10.CcmBack", spec := "ccmBack", inPlace := ["internal/abi.NoEscape", "internal/bytealg.MakeNoZero"], unfollowed := true, recurses := true, apart := false }
def CcmBackSaid : Prop := ccmBackRow.holds Try.pinned (OpenSpec.ofChange ccmBackSpec)

/-- ITS FALSE NEIGHBOUR: 'it returns false'. Refute it at one input. -/
def ccmBackWrong : ChangeSpec := { name := "ccmBack", fn := fun _ => fun
  | [d1, d2] => { results := [.lit (.bool false)], args := [d1, d2] }
  | _ => none }
def CcmBackWrongFalsely : Prop := ccmBackRow.holds Try.pinned (OpenSpec.ofChange ccmBackWrong)

/-- 'pyxislaw10.CcmGreat': WHATEVER THE INPUT: true; the input reads as it did. -/
def ccmGreatSpec : ChangeSpec := { name := "ccmGreat", fn := fun _ => fun
  | [d1, d2, d3] => { results := [.lit (.bool true)], args := [d1, d2, d3] }
  | _ => none }
def ccmGreatRow : OpenClaim := { program := "ytjdcpejcnmpiaaa", sum := "0afe76b1dc18c81f1abca0748c443c8307e132377173ab0828189bae3fe4b4ab", func := "pyxis/pyxislaw10.CcmGreat", spec := "ccmGreat", inPlace := ["internal/abi.NoEscape", "internal/bytealg.MakeNoZero"], unfollowed := true, recurses := true, apart := false }
def CcmGreatSaid : Prop := ccmGreatRow.holds Try.pinned (OpenSpec.ofChange ccmGreatSpec)

/-- ITS FALSE NEIGHBOUR: 'it returns false'. Refute it at one input. -/
def ccmGreatWrong : ChangeSpec := { name := "ccmGreat", fn := fun _ => fun
  | [d1, d2, d3] => { results := [.lit (.bool false)], args := [d1, d2, d3] }
  | _ => none }
def CcmGreatWrongFalsely : Prop := ccmGreatRow.holds Try.pinned (OpenSpec.ofChange ccmGreatWrong)

/-- 'pyxislaw10.CcmChanged': WHATEVER THE INPUT: true; the input reads as it did. -/
def ccmChangedSpec : ChangeSpec := { name := "ccmChanged", fn := fun _ => fun
  | [d1, d2, d3] => { results := [.lit (.bool true)], args := [d1, d2, d3] }
  | _ => none }
def ccmChangedRow : OpenClaim := { program := "ytjdcpejcnmpiaaa", sum := "0afe76b1dc18c81f1abca0748c443c8307e132377173ab0828189bae3fe4b4ab", func := "pyxis/pyxislaw10.CcmChanged", spec := "ccmChanged", inPlace := ["internal/abi.NoEscape", "internal/bytealg.MakeNoZero"], unfollowed := true, recurses := true, apart := false }
def CcmChangedSaid : Prop := ccmChangedRow.holds Try.pinned (OpenSpec.ofChange ccmChangedSpec)

/-- ITS FALSE NEIGHBOUR: 'it returns false'. Refute it at one input. -/
def ccmChangedWrong : ChangeSpec := { name := "ccmChanged", fn := fun _ => fun
  | [d1, d2, d3] => { results := [.lit (.bool false)], args := [d1, d2, d3] }
  | _ => none }
def CcmChangedWrongFalsely : Prop := ccmChangedRow.holds Try.pinned (OpenSpec.ofChange ccmChangedWrong)

/- THE SECOND FORM. 'bulk': how many values and letters a reading holds, each counted each time it is reached (what is shared counts as often as it is met; a slice's spare places count too). A statement '..UptoSaid' is the law's where the arguments, and the package variables that the reading takes, are together of bulk at most 1048576: NARROWER than '..Said'. Prove '..Said' where nothing that the law and all that it calls make is longer than what came in: it says more and counts as full. Else prove '..UptoSaid'. A law counts once. -/
mutual
def uptoBulk {H : Type} : DataW H → Nat
  | .lit (.string bytes) => bytes.length + 1
  | .lit _ => 1
  | .nil => 1
  | .ptr d => uptoBulk d + 1
  | .slice elems spare => uptoBulkAll elems + uptoBulkAll spare + 1
  | .agg parts => uptoBulkAll parts + 1
  | .iface _ d => uptoBulk d + 1
  | .map entries => uptoBulkEntries entries + 1
  | .held _ => 1
def uptoBulkAll {H : Type} : List (DataW H) → Nat
  | [] => 0
  | d :: r => uptoBulk d + uptoBulkAll r
def uptoBulkEntries {H : Type} : List (Lit × DataW H) → Nat
  | [] => 0
  | x :: r => uptoBulkEntry x + uptoBulkEntries r
def uptoBulkEntry {H : Type} : Lit × DataW H → Nat
  | (.string bytes, d) => bytes.length + uptoBulk d + 1
  | (_, d) => uptoBulk d + 1
 end
def uptoSmall : (H : Type) → List (DataW H) → Bool := fun _ ds => decide (uptoBulkAll ds ≤ 1048576)
def OpenSpec.upto (s : _root_.Go.ChangeSpec) : _root_.Go.OpenSpec := { _root_.Go.OpenSpec.ofChange s with cond := some uptoSmall }

/-- 'pyxislaw06.CbcPads', WHERE WHAT IT READS IS OF BULK AT MOST 1048576: true; the input reads as it did. -/
def cbcPadsUptoRow : OpenClaim := { program := "ytjdcpejcnmpiaaa", sum := "0afe76b1dc18c81f1abca0748c443c8307e132377173ab0828189bae3fe4b4ab", func := "pyxis/pyxislaw06.CbcPads", spec := "cbcPads", inPlace := ["internal/abi.NoEscape", "internal/bytealg.MakeNoZero", "sync/atomic.LoadUint32", "(*internal/sync.Mutex).Lock", "internal/race.Disable", "sync/atomic.CompareAndSwapInt32", "internal/race.Enable", "internal/race.Acquire", "(*internal/sync.Mutex).lockSlow", "internal/sync.runtime_canSpin", "internal/sync.runtime_doSpin", "internal/sync.throw", "internal/sync.runtime_nanotime", "internal/sync.runtime_SemacquireMutex", "sync/atomic.AddInt32", "(*internal/sync.Mutex).Unlock", "internal/race.ReleaseMerge", "(*internal/sync.Mutex).unlockSlow", "internal/sync.fatal", "internal/sync.runtime_Semrelease", "sync/atomic.StoreUint32"], unfollowed := true, recurses := true, apart := false, narrowed := true }
def CbcPadsUptoSaid : Prop := cbcPadsUptoRow.holds Try.pinned (OpenSpec.upto cbcPadsSpec)

/-- 'pyxislaw06.CbcChains', WHERE WHAT IT READS IS OF BULK AT MOST 1048576: true; the input reads as it did. -/
def cbcChainsUptoRow : OpenClaim := { program := "ytjdcpejcnmpiaaa", sum := "0afe76b1dc18c81f1abca0748c443c8307e132377173ab0828189bae3fe4b4ab", func := "pyxis/pyxislaw06.CbcChains", spec := "cbcChains", inPlace := ["internal/abi.NoEscape", "internal/bytealg.MakeNoZero", "sync/atomic.LoadUint32", "(*internal/sync.Mutex).Lock", "internal/race.Disable", "sync/atomic.CompareAndSwapInt32", "internal/race.Enable", "internal/race.Acquire", "(*internal/sync.Mutex).lockSlow", "internal/sync.runtime_canSpin", "internal/sync.runtime_doSpin", "internal/sync.throw", "internal/sync.runtime_nanotime", "internal/sync.runtime_SemacquireMutex", "sync/atomic.AddInt32", "(*internal/sync.Mutex).Unlock", "internal/race.ReleaseMerge", "(*internal/sync.Mutex).unlockSlow", "internal/sync.fatal", "internal/sync.runtime_Semrelease", "sync/atomic.StoreUint32"], unfollowed := true, recurses := true, apart := false, narrowed := true }
def CbcChainsUptoSaid : Prop := cbcChainsUptoRow.holds Try.pinned (OpenSpec.upto cbcChainsSpec)

/-- 'pyxislaw06.CbcSeals', WHERE WHAT IT READS IS OF BULK AT MOST 1048576: true; the input reads as it did. -/
def cbcSealsUptoRow : OpenClaim := { program := "ytjdcpejcnmpiaaa", sum := "0afe76b1dc18c81f1abca0748c443c8307e132377173ab0828189bae3fe4b4ab", func := "pyxis/pyxislaw06.CbcSeals", spec := "cbcSeals", inPlace := ["internal/abi.NoEscape", "internal/bytealg.MakeNoZero", "sync/atomic.LoadUint32", "(*internal/sync.Mutex).Lock", "internal/race.Disable", "sync/atomic.CompareAndSwapInt32", "internal/race.Enable", "internal/race.Acquire", "(*internal/sync.Mutex).lockSlow", "internal/sync.runtime_canSpin", "internal/sync.runtime_doSpin", "internal/sync.throw", "internal/sync.runtime_nanotime", "internal/sync.runtime_SemacquireMutex", "sync/atomic.AddInt32", "(*internal/sync.Mutex).Unlock", "internal/race.ReleaseMerge", "(*internal/sync.Mutex).unlockSlow", "internal/sync.fatal", "internal/sync.runtime_Semrelease", "sync/atomic.StoreUint32"], unfollowed := true, recurses := true, apart := false, narrowed := true }
def CbcSealsUptoSaid : Prop := cbcSealsUptoRow.holds Try.pinned (OpenSpec.upto cbcSealsSpec)

/-- 'pyxislaw06.CbcOpens', WHERE WHAT IT READS IS OF BULK AT MOST 1048576: true; the input reads as it did. -/
def cbcOpensUptoRow : OpenClaim := { program := "ytjdcpejcnmpiaaa", sum := "0afe76b1dc18c81f1abca0748c443c8307e132377173ab0828189bae3fe4b4ab", func := "pyxis/pyxislaw06.CbcOpens", spec := "cbcOpens", inPlace := ["internal/abi.NoEscape", "internal/bytealg.MakeNoZero", "sync/atomic.LoadUint32", "(*internal/sync.Mutex).Lock", "internal/race.Disable", "sync/atomic.CompareAndSwapInt32", "internal/race.Enable", "internal/race.Acquire", "(*internal/sync.Mutex).lockSlow", "internal/sync.runtime_canSpin", "internal/sync.runtime_doSpin", "internal/sync.throw", "internal/sync.runtime_nanotime", "internal/sync.runtime_SemacquireMutex", "sync/atomic.AddInt32", "(*internal/sync.Mutex).Unlock", "internal/race.ReleaseMerge", "(*internal/sync.Mutex).unlockSlow", "internal/sync.fatal", "internal/sync.runtime_Semrelease", "sync/atomic.StoreUint32"], unfollowed := true, recurses := true, apart := false, narrowed := true }
def CbcOpensUptoSaid : Prop := cbcOpensUptoRow.holds Try.pinned (OpenSpec.upto cbcOpensSpec)

/-- 'pyxislaw06.CbcMacs', WHERE WHAT IT READS IS OF BULK AT MOST 1048576: true; the input reads as it did. -/
def cbcMacsUptoRow : OpenClaim := { program := "ytjdcpejcnmpiaaa", sum := "0afe76b1dc18c81f1abca0748c443c8307e132377173ab0828189bae3fe4b4ab", func := "pyxis/pyxislaw06.CbcMacs", spec := "cbcMacs", inPlace := ["internal/abi.NoEscape", "internal/bytealg.MakeNoZero", "sync/atomic.LoadUint32", "(*internal/sync.Mutex).Lock", "internal/race.Disable", "sync/atomic.CompareAndSwapInt32", "internal/race.Enable", "internal/race.Acquire", "(*internal/sync.Mutex).lockSlow", "internal/sync.runtime_canSpin", "internal/sync.runtime_doSpin", "internal/sync.throw", "internal/sync.runtime_nanotime", "internal/sync.runtime_SemacquireMutex", "sync/atomic.AddInt32", "(*internal/sync.Mutex).Unlock", "internal/race.ReleaseMerge", "(*internal/sync.Mutex).unlockSlow", "internal/sync.fatal", "internal/sync.runtime_Semrelease", "sync/atomic.StoreUint32"], unfollowed := true, recurses := true, apart := false, narrowed := true }
def CbcMacsUptoSaid : Prop := cbcMacsUptoRow.holds Try.pinned (OpenSpec.upto cbcMacsSpec)

/-- 'pyxislaw22.RecipFills', WHERE WHAT IT READS IS OF BULK AT MOST 1048576: true; the input reads as it did. -/
def recipFillsUptoRow : OpenClaim := { program := "ytjdcpejcnmpiaaa", sum := "0afe76b1dc18c81f1abca0748c443c8307e132377173ab0828189bae3fe4b4ab", func := "pyxis/pyxislaw22.RecipFills", spec := "recipFills", inPlace := ["sync/atomic.LoadUint32", "(*internal/sync.Mutex).Lock", "internal/race.Disable", "sync/atomic.CompareAndSwapInt32", "internal/race.Enable", "internal/race.Acquire", "(*internal/sync.Mutex).lockSlow", "internal/sync.runtime_canSpin", "internal/sync.runtime_doSpin", "internal/sync.throw", "internal/sync.runtime_nanotime", "internal/sync.runtime_SemacquireMutex", "sync/atomic.AddInt32", "(*internal/sync.Mutex).Unlock", "internal/race.ReleaseMerge", "(*internal/sync.Mutex).unlockSlow", "internal/sync.fatal", "internal/sync.runtime_Semrelease", "sync/atomic.StoreUint32"], unfollowed := true, recurses := true, apart := false, narrowed := true }
def RecipFillsUptoSaid : Prop := recipFillsUptoRow.holds Try.pinned (OpenSpec.upto recipFillsSpec)

/-- 'pyxislaw22.RecipLocks', WHERE WHAT IT READS IS OF BULK AT MOST 1048576: true; the input reads as it did. -/
def recipLocksUptoRow : OpenClaim := { program := "ytjdcpejcnmpiaaa", sum := "0afe76b1dc18c81f1abca0748c443c8307e132377173ab0828189bae3fe4b4ab", func := "pyxis/pyxislaw22.RecipLocks", spec := "recipLocks", inPlace := ["sync/atomic.LoadUint32", "(*internal/sync.Mutex).Lock", "internal/race.Disable", "sync/atomic.CompareAndSwapInt32", "internal/race.Enable", "internal/race.Acquire", "(*internal/sync.Mutex).lockSlow", "internal/sync.runtime_canSpin", "internal/sync.runtime_doSpin", "internal/sync.throw", "internal/sync.runtime_nanotime", "internal/sync.runtime_SemacquireMutex", "sync/atomic.AddInt32", "(*internal/sync.Mutex).Unlock", "internal/race.ReleaseMerge", "(*internal/sync.Mutex).unlockSlow", "internal/sync.fatal", "internal/sync.runtime_Semrelease", "sync/atomic.StoreUint32"], unfollowed := true, recurses := true, apart := false, narrowed := true }
def RecipLocksUptoSaid : Prop := recipLocksUptoRow.holds Try.pinned (OpenSpec.upto recipLocksSpec)

/-- 'pyxislaw22.RecipUnlocks', WHERE WHAT IT READS IS OF BULK AT MOST 1048576: true; the input reads as it did. -/
def recipUnlocksUptoRow : OpenClaim := { program := "ytjdcpejcnmpiaaa", sum := "0afe76b1dc18c81f1abca0748c443c8307e132377173ab0828189bae3fe4b4ab", func := "pyxis/pyxislaw22.RecipUnlocks", spec := "recipUnlocks", inPlace := ["sync/atomic.LoadUint32", "(*internal/sync.Mutex).Lock", "internal/race.Disable", "sync/atomic.CompareAndSwapInt32", "internal/race.Enable", "internal/race.Acquire", "(*internal/sync.Mutex).lockSlow", "internal/sync.runtime_canSpin", "internal/sync.runtime_doSpin", "internal/sync.throw", "internal/sync.runtime_nanotime", "internal/sync.runtime_SemacquireMutex", "sync/atomic.AddInt32", "(*internal/sync.Mutex).Unlock", "internal/race.ReleaseMerge", "(*internal/sync.Mutex).unlockSlow", "internal/sync.fatal", "internal/sync.runtime_Semrelease", "sync/atomic.StoreUint32"], unfollowed := true, recurses := true, apart := false, narrowed := true }
def RecipUnlocksUptoSaid : Prop := recipUnlocksUptoRow.holds Try.pinned (OpenSpec.upto recipUnlocksSpec)

/-- 'pyxislaw22.RecipNames', WHERE WHAT IT READS IS OF BULK AT MOST 1048576: true; the input reads as it did. -/
def recipNamesUptoRow : OpenClaim := { program := "ytjdcpejcnmpiaaa", sum := "0afe76b1dc18c81f1abca0748c443c8307e132377173ab0828189bae3fe4b4ab", func := "pyxis/pyxislaw22.RecipNames", spec := "recipNames", inPlace := ["sync/atomic.LoadUint32", "(*internal/sync.Mutex).Lock", "internal/race.Disable", "sync/atomic.CompareAndSwapInt32", "internal/race.Enable", "internal/race.Acquire", "(*internal/sync.Mutex).lockSlow", "internal/sync.runtime_canSpin", "internal/sync.runtime_doSpin", "internal/sync.throw", "internal/sync.runtime_nanotime", "internal/sync.runtime_SemacquireMutex", "sync/atomic.AddInt32", "(*internal/sync.Mutex).Unlock", "internal/race.ReleaseMerge", "(*internal/sync.Mutex).unlockSlow", "internal/sync.fatal", "internal/sync.runtime_Semrelease", "sync/atomic.StoreUint32"], unfollowed := true, recurses := true, apart := false, narrowed := true }
def RecipNamesUptoSaid : Prop := recipNamesUptoRow.holds Try.pinned (OpenSpec.upto recipNamesSpec)

/-- 'pyxislaw10.CcmSeals', WHERE WHAT IT READS IS OF BULK AT MOST 1048576: true; the input reads as it did. -/
def ccmSealsUptoRow : OpenClaim := { program := "ytjdcpejcnmpiaaa", sum := "0afe76b1dc18c81f1abca0748c443c8307e132377173ab0828189bae3fe4b4ab", func := "pyxis/pyxislaw10.CcmSeals", spec := "ccmSeals", inPlace := ["internal/abi.NoEscape", "internal/bytealg.MakeNoZero"], unfollowed := true, recurses := true, apart := false, narrowed := true }
def CcmSealsUptoSaid : Prop := ccmSealsUptoRow.holds Try.pinned (OpenSpec.upto ccmSealsSpec)

/-- 'pyxislaw10.CcmOpens', WHERE WHAT IT READS IS OF BULK AT MOST 1048576: true; the input reads as it did. -/
def ccmOpensUptoRow : OpenClaim := { program := "ytjdcpejcnmpiaaa", sum := "0afe76b1dc18c81f1abca0748c443c8307e132377173ab0828189bae3fe4b4ab", func := "pyxis/pyxislaw10.CcmOpens", spec := "ccmOpens", inPlace := ["internal/abi.NoEscape", "internal/bytealg.MakeNoZero"], unfollowed := true, recurses := true, apart := false, narrowed := true }
def CcmOpensUptoSaid : Prop := ccmOpensUptoRow.holds Try.pinned (OpenSpec.upto ccmOpensSpec)

/-- 'pyxislaw10.CcmTags', WHERE WHAT IT READS IS OF BULK AT MOST 1048576: true; the input reads as it did. -/
def ccmTagsUptoRow : OpenClaim := { program := "ytjdcpejcnmpiaaa", sum := "0afe76b1dc18c81f1abca0748c443c8307e132377173ab0828189bae3fe4b4ab", func := "pyxis/pyxislaw10.CcmTags", spec := "ccmTags", inPlace := ["internal/abi.NoEscape", "internal/bytealg.MakeNoZero"], unfollowed := true, recurses := true, apart := false, narrowed := true }
def CcmTagsUptoSaid : Prop := ccmTagsUptoRow.holds Try.pinned (OpenSpec.upto ccmTagsSpec)

/-- 'pyxislaw10.CcmBack', WHERE WHAT IT READS IS OF BULK AT MOST 1048576: true; the input reads as it did. -/
def ccmBackUptoRow : OpenClaim := { program := "ytjdcpejcnmpiaaa", sum := "0afe76b1dc18c81f1abca0748c443c8307e132377173ab0828189bae3fe4b4ab", func := "pyxis/pyxislaw10.CcmBack", spec := "ccmBack", inPlace := ["internal/abi.NoEscape", "internal/bytealg.MakeNoZero"], unfollowed := true, recurses := true, apart := false, narrowed := true }
def CcmBackUptoSaid : Prop := ccmBackUptoRow.holds Try.pinned (OpenSpec.upto ccmBackSpec)

/-- 'pyxislaw10.CcmGreat', WHERE WHAT IT READS IS OF BULK AT MOST 1048576: true; the input reads as it did. -/
def ccmGreatUptoRow : OpenClaim := { program := "ytjdcpejcnmpiaaa", sum := "0afe76b1dc18c81f1abca0748c443c8307e132377173ab0828189bae3fe4b4ab", func := "pyxis/pyxislaw10.CcmGreat", spec := "ccmGreat", inPlace := ["internal/abi.NoEscape", "internal/bytealg.MakeNoZero"], unfollowed := true, recurses := true, apart := false, narrowed := true }
def CcmGreatUptoSaid : Prop := ccmGreatUptoRow.holds Try.pinned (OpenSpec.upto ccmGreatSpec)

/-- 'pyxislaw10.CcmChanged', WHERE WHAT IT READS IS OF BULK AT MOST 1048576: true; the input reads as it did. -/
def ccmChangedUptoRow : OpenClaim := { program := "ytjdcpejcnmpiaaa", sum := "0afe76b1dc18c81f1abca0748c443c8307e132377173ab0828189bae3fe4b4ab", func := "pyxis/pyxislaw10.CcmChanged", spec := "ccmChanged", inPlace := ["internal/abi.NoEscape", "internal/bytealg.MakeNoZero"], unfollowed := true, recurses := true, apart := false, narrowed := true }
def CcmChangedUptoSaid : Prop := ccmChangedUptoRow.holds Try.pinned (OpenSpec.upto ccmChangedSpec)

end Rows
end Go.Proofs.Ytjdcpejcnmpiaaa
