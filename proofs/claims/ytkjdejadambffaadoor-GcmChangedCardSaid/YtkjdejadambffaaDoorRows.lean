/-
  NARROWER THAN 'FOR EVERY INPUT', by the rows' own cells (each row's printed sentence says how): GcmSeals: laid · GcmTags: laid · GcmOpens: laid · GcmBack: laid · GcmChanged: laid.
  DERIVED. THE GIVEN ROWS OF THIS SEAT. 5 by the template 'for every input the law returns true; each argument reads behind the call as it read before'; 0 by the template 'total and deterministic' (their statements: YtkjdejadambffaaDoorTotals.lean).
  GIVEN WITH THE SEED: the statements are not yours to turn. If you find one false, say at which input.
  Laid BY PROGRAM, IN A SANDBOX (cutbox-rows.mjs): the forced cells as the released guide's own fill.sh prints them over the translation c6c5e209e9ebd3e8… (all of the seat's roots in one cut). By AI agents, Wed Nov 11 2026. No macro, syntax, notation, axiom, sorry.
-/
import Derived.Test.YtkjdejadambffaaDoorChecked
import GoSem.Claim
import GoSem.ClaimJoined
import GoSem.ClaimMapViews
import Derived.JoinedTies
import Derived.KernelRfl
namespace Go.Proofs.YtkjdejadambffaaDoor
/- THE CELL 'sum', in the pinned program and in every row, IS THE sha256 OF THE DUMP (.gsa) THAT YtkjdejadambffaaDoorProg.lean LOADS. Nothing in Lean hashes anything: it is a label: what it is worth is what the hold of that sum in a sandbox is worth. -/
noncomputable def Tryd.pinned : Pinned := { name := "ytkjdejadambffaadoor", sum := "c6c5e209e9ebd3e8507a3d8536e59f7cd4aa3bbadbc6f1d301c2374211d34648", checked := Tryd.checked }
namespace Rows
def none {H : Type} : Left H := { results := [], args := [] }

/- WHAT THE LISTED PACKAGE-LEVEL VARIABLES READ AS WHEN THE CALL BEGINS. Each datum BY PROGRAM (the guide's laid-datum.mjs) off the statement by which the dump's own 'gosem.cut.vars' lays the variable. In a bare row this is a premise. The card (YtkjdejadambffaaDoorCards.lean) ties it to the program's text. -/
def laid_pyxis_ghash_fold {H : Type} : DataW H := .agg [.lit (.int .u64 0), .lit (.int .u64 7200), .lit (.int .u64 14400), .lit (.int .u64 9312), .lit (.int .u64 28800), .lit (.int .u64 27808), .lit (.int .u64 18624), .lit (.int .u64 21728), .lit (.int .u64 57600), .lit (.int .u64 64800), .lit (.int .u64 55616), .lit (.int .u64 50528), .lit (.int .u64 37248), .lit (.int .u64 36256), .lit (.int .u64 43456), .lit (.int .u64 46560)]

/-- 'pyxislaw09.GcmSeals': WHATEVER THE INPUT: true; the input reads as it did. -/
def gcmSealsSpec : ChangeSpec := { name := "gcmSeals", fn := fun _ => fun
  | [d1, d2] => { results := [.lit (.bool true)], args := [d1, d2] }
  | _ => none }
def gcmSealsRow : OpenClaim := { program := "ytkjdejadambffaadoor", sum := "c6c5e209e9ebd3e8507a3d8536e59f7cd4aa3bbadbc6f1d301c2374211d34648", func := "pyxis/pyxislaw09.GcmSeals", spec := "gcmSeals", inPlace := ["internal/abi.NoEscape", "internal/bytealg.MakeNoZero"], unfollowed := true, recurses := true, named := ["pyxis/ghash.fold"], apart := false, laid := [("pyxis/ghash.fold", laid_pyxis_ghash_fold)] }
def GcmSealsSaid : Prop := gcmSealsRow.holds Tryd.pinned (OpenSpec.ofChange gcmSealsSpec)

/-- ITS FALSE NEIGHBOUR: 'it returns false'. Refute it at one input. -/
def gcmSealsWrong : ChangeSpec := { name := "gcmSeals", fn := fun _ => fun
  | [d1, d2] => { results := [.lit (.bool false)], args := [d1, d2] }
  | _ => none }
def GcmSealsWrongFalsely : Prop := gcmSealsRow.holds Tryd.pinned (OpenSpec.ofChange gcmSealsWrong)

/-- 'pyxislaw09.GcmTags': WHATEVER THE INPUT: true; the input reads as it did. -/
def gcmTagsSpec : ChangeSpec := { name := "gcmTags", fn := fun _ => fun
  | [d1, d2] => { results := [.lit (.bool true)], args := [d1, d2] }
  | _ => none }
def gcmTagsRow : OpenClaim := { program := "ytkjdejadambffaadoor", sum := "c6c5e209e9ebd3e8507a3d8536e59f7cd4aa3bbadbc6f1d301c2374211d34648", func := "pyxis/pyxislaw09.GcmTags", spec := "gcmTags", inPlace := ["internal/abi.NoEscape", "internal/bytealg.MakeNoZero"], unfollowed := true, recurses := true, named := ["pyxis/ghash.fold"], apart := false, laid := [("pyxis/ghash.fold", laid_pyxis_ghash_fold)] }
def GcmTagsSaid : Prop := gcmTagsRow.holds Tryd.pinned (OpenSpec.ofChange gcmTagsSpec)

/-- ITS FALSE NEIGHBOUR: 'it returns false'. Refute it at one input. -/
def gcmTagsWrong : ChangeSpec := { name := "gcmTags", fn := fun _ => fun
  | [d1, d2] => { results := [.lit (.bool false)], args := [d1, d2] }
  | _ => none }
def GcmTagsWrongFalsely : Prop := gcmTagsRow.holds Tryd.pinned (OpenSpec.ofChange gcmTagsWrong)

/-- 'pyxislaw09.GcmOpens': WHATEVER THE INPUT: true; the input reads as it did. -/
def gcmOpensSpec : ChangeSpec := { name := "gcmOpens", fn := fun _ => fun
  | [d1, d2] => { results := [.lit (.bool true)], args := [d1, d2] }
  | _ => none }
def gcmOpensRow : OpenClaim := { program := "ytkjdejadambffaadoor", sum := "c6c5e209e9ebd3e8507a3d8536e59f7cd4aa3bbadbc6f1d301c2374211d34648", func := "pyxis/pyxislaw09.GcmOpens", spec := "gcmOpens", inPlace := ["internal/abi.NoEscape", "internal/bytealg.MakeNoZero"], unfollowed := true, recurses := true, named := ["pyxis/ghash.fold"], apart := false, laid := [("pyxis/ghash.fold", laid_pyxis_ghash_fold)] }
def GcmOpensSaid : Prop := gcmOpensRow.holds Tryd.pinned (OpenSpec.ofChange gcmOpensSpec)

/-- ITS FALSE NEIGHBOUR: 'it returns false'. Refute it at one input. -/
def gcmOpensWrong : ChangeSpec := { name := "gcmOpens", fn := fun _ => fun
  | [d1, d2] => { results := [.lit (.bool false)], args := [d1, d2] }
  | _ => none }
def GcmOpensWrongFalsely : Prop := gcmOpensRow.holds Tryd.pinned (OpenSpec.ofChange gcmOpensWrong)

/-- 'pyxislaw09.GcmBack': WHATEVER THE INPUT: true; the input reads as it did. -/
def gcmBackSpec : ChangeSpec := { name := "gcmBack", fn := fun _ => fun
  | [d1, d2] => { results := [.lit (.bool true)], args := [d1, d2] }
  | _ => none }
def gcmBackRow : OpenClaim := { program := "ytkjdejadambffaadoor", sum := "c6c5e209e9ebd3e8507a3d8536e59f7cd4aa3bbadbc6f1d301c2374211d34648", func := "pyxis/pyxislaw09.GcmBack", spec := "gcmBack", inPlace := ["internal/abi.NoEscape", "internal/bytealg.MakeNoZero"], unfollowed := true, recurses := true, named := ["pyxis/ghash.fold"], apart := false, laid := [("pyxis/ghash.fold", laid_pyxis_ghash_fold)] }
def GcmBackSaid : Prop := gcmBackRow.holds Tryd.pinned (OpenSpec.ofChange gcmBackSpec)

/-- ITS FALSE NEIGHBOUR: 'it returns false'. Refute it at one input. -/
def gcmBackWrong : ChangeSpec := { name := "gcmBack", fn := fun _ => fun
  | [d1, d2] => { results := [.lit (.bool false)], args := [d1, d2] }
  | _ => none }
def GcmBackWrongFalsely : Prop := gcmBackRow.holds Tryd.pinned (OpenSpec.ofChange gcmBackWrong)

/-- 'pyxislaw09.GcmChanged': WHATEVER THE INPUT: true; the input reads as it did. -/
def gcmChangedSpec : ChangeSpec := { name := "gcmChanged", fn := fun _ => fun
  | [d1, d2, d3] => { results := [.lit (.bool true)], args := [d1, d2, d3] }
  | _ => none }
def gcmChangedRow : OpenClaim := { program := "ytkjdejadambffaadoor", sum := "c6c5e209e9ebd3e8507a3d8536e59f7cd4aa3bbadbc6f1d301c2374211d34648", func := "pyxis/pyxislaw09.GcmChanged", spec := "gcmChanged", inPlace := ["internal/abi.NoEscape", "internal/bytealg.MakeNoZero"], unfollowed := true, recurses := true, named := ["pyxis/ghash.fold"], apart := false, laid := [("pyxis/ghash.fold", laid_pyxis_ghash_fold)] }
def GcmChangedSaid : Prop := gcmChangedRow.holds Tryd.pinned (OpenSpec.ofChange gcmChangedSpec)

/-- ITS FALSE NEIGHBOUR: 'it returns false'. Refute it at one input. -/
def gcmChangedWrong : ChangeSpec := { name := "gcmChanged", fn := fun _ => fun
  | [d1, d2, d3] => { results := [.lit (.bool false)], args := [d1, d2, d3] }
  | _ => none }
def GcmChangedWrongFalsely : Prop := gcmChangedRow.holds Tryd.pinned (OpenSpec.ofChange gcmChangedWrong)

/- THE SECOND FORM. 'bulk': how many values and letters a reading holds, each counted each time it is reached (what is shared counts as often as it is met; a slice's spare places count too). A statement '..UptoSaid' is the law's where the arguments, and the package variables that the reading takes, are together of bulk at most 1048576: NARROWER than '..Said'. Prove '..Said' where nothing that the law and all that it calls make is longer than what came in: it says more and counts as full. Else prove '..UptoSaid'. A law counts once. -/
mutual
def uptoBulk {H : Type} : DataW H → Nat
  | .lit (.string bytes) => bytes.length + 1
  | .lit _ => 1
  | .nil => 1
  | .ptr d => uptoBulk d + 1
  | .slice elems spare => uptoBulkAll elems + uptoBulkAll spare + 1
  | .agg parts => uptoBulkAll parts + 1
  | .iface _ d => uptoBulk d + 1
  | .map entries => uptoBulkEntries entries + 1
  | .held _ => 1
def uptoBulkAll {H : Type} : List (DataW H) → Nat
  | [] => 0
  | d :: r => uptoBulk d + uptoBulkAll r
def uptoBulkEntries {H : Type} : List (Lit × DataW H) → Nat
  | [] => 0
  | x :: r => uptoBulkEntry x + uptoBulkEntries r
def uptoBulkEntry {H : Type} : Lit × DataW H → Nat
  | (.string bytes, d) => bytes.length + uptoBulk d + 1
  | (_, d) => uptoBulk d + 1
 end
def uptoSmall : (H : Type) → List (DataW H) → Bool := fun _ ds => decide (uptoBulkAll ds ≤ 1048576)
def OpenSpec.upto (s : _root_.Go.ChangeSpec) : _root_.Go.OpenSpec := { _root_.Go.OpenSpec.ofChange s with cond := some uptoSmall }

/-- 'pyxislaw09.GcmSeals', WHERE WHAT IT READS IS OF BULK AT MOST 1048576: true; the input reads as it did. -/
def gcmSealsUptoRow : OpenClaim := { program := "ytkjdejadambffaadoor", sum := "c6c5e209e9ebd3e8507a3d8536e59f7cd4aa3bbadbc6f1d301c2374211d34648", func := "pyxis/pyxislaw09.GcmSeals", spec := "gcmSeals", inPlace := ["internal/abi.NoEscape", "internal/bytealg.MakeNoZero"], unfollowed := true, recurses := true, named := ["pyxis/ghash.fold"], apart := false, laid := [("pyxis/ghash.fold", laid_pyxis_ghash_fold)], narrowed := true }
def GcmSealsUptoSaid : Prop := gcmSealsUptoRow.holds Tryd.pinned (OpenSpec.upto gcmSealsSpec)

/-- 'pyxislaw09.GcmTags', WHERE WHAT IT READS IS OF BULK AT MOST 1048576: true; the input reads as it did. -/
def gcmTagsUptoRow : OpenClaim := { program := "ytkjdejadambffaadoor", sum := "c6c5e209e9ebd3e8507a3d8536e59f7cd4aa3bbadbc6f1d301c2374211d34648", func := "pyxis/pyxislaw09.GcmTags", spec := "gcmTags", inPlace := ["internal/abi.NoEscape", "internal/bytealg.MakeNoZero"], unfollowed := true, recurses := true, named := ["pyxis/ghash.fold"], apart := false, laid := [("pyxis/ghash.fold", laid_pyxis_ghash_fold)], narrowed := true }
def GcmTagsUptoSaid : Prop := gcmTagsUptoRow.holds Tryd.pinned (OpenSpec.upto gcmTagsSpec)

/-- 'pyxislaw09.GcmOpens', WHERE WHAT IT READS IS OF BULK AT MOST 1048576: true; the input reads as it did. -/
def gcmOpensUptoRow : OpenClaim := { program := "ytkjdejadambffaadoor", sum := "c6c5e209e9ebd3e8507a3d8536e59f7cd4aa3bbadbc6f1d301c2374211d34648", func := "pyxis/pyxislaw09.GcmOpens", spec := "gcmOpens", inPlace := ["internal/abi.NoEscape", "internal/bytealg.MakeNoZero"], unfollowed := true, recurses := true, named := ["pyxis/ghash.fold"], apart := false, laid := [("pyxis/ghash.fold", laid_pyxis_ghash_fold)], narrowed := true }
def GcmOpensUptoSaid : Prop := gcmOpensUptoRow.holds Tryd.pinned (OpenSpec.upto gcmOpensSpec)

/-- 'pyxislaw09.GcmBack', WHERE WHAT IT READS IS OF BULK AT MOST 1048576: true; the input reads as it did. -/
def gcmBackUptoRow : OpenClaim := { program := "ytkjdejadambffaadoor", sum := "c6c5e209e9ebd3e8507a3d8536e59f7cd4aa3bbadbc6f1d301c2374211d34648", func := "pyxis/pyxislaw09.GcmBack", spec := "gcmBack", inPlace := ["internal/abi.NoEscape", "internal/bytealg.MakeNoZero"], unfollowed := true, recurses := true, named := ["pyxis/ghash.fold"], apart := false, laid := [("pyxis/ghash.fold", laid_pyxis_ghash_fold)], narrowed := true }
def GcmBackUptoSaid : Prop := gcmBackUptoRow.holds Tryd.pinned (OpenSpec.upto gcmBackSpec)

/-- 'pyxislaw09.GcmChanged', WHERE WHAT IT READS IS OF BULK AT MOST 1048576: true; the input reads as it did. -/
def gcmChangedUptoRow : OpenClaim := { program := "ytkjdejadambffaadoor", sum := "c6c5e209e9ebd3e8507a3d8536e59f7cd4aa3bbadbc6f1d301c2374211d34648", func := "pyxis/pyxislaw09.GcmChanged", spec := "gcmChanged", inPlace := ["internal/abi.NoEscape", "internal/bytealg.MakeNoZero"], unfollowed := true, recurses := true, named := ["pyxis/ghash.fold"], apart := false, laid := [("pyxis/ghash.fold", laid_pyxis_ghash_fold)], narrowed := true }
def GcmChangedUptoSaid : Prop := gcmChangedUptoRow.holds Tryd.pinned (OpenSpec.upto gcmChangedSpec)

end Rows
end Go.Proofs.YtkjdejadambffaaDoor
