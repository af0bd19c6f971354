/-
  strings.Repeat of one byte, by the library's contract (laid by the kit's lay-shelf and lay-plain, cut to what is used). Conditions as it says.
-/
import Derived.Shelf.Strings.Repeat
import Derived.Test.YtepogbfkmflooaaDoorRows
import Derived.Test.YtepogbfkmflooaaDoorMem
import Derived.ProofKit
namespace Go.Proofs.YtepogbfkmflooaaDoor
open Go.Shelf Go.RowKit
def rpLays_ren : Go.Shelf.Ren := ⟨fun | 105 => 45 | 212 => 62 | 99 => 63 | 165 => 64 | 166 => 65 | 170 => 66 | 169 => 67 | 263 => 82 | 264 => 83 | 206 => 84 | 240 => 85 | 241 => 86 | 276 => 95 | 277 => 96 | n => n, fun | 9 => 9 | 3 => 3 | 4 => 4 | 20 => 20 | 0 => 0 | 46 => 85 | 109 => 115 | 5 => 5 | 72 => 119 | 76 => 123 | 51 => 102 | 146 => 146 | 53 => 58 | 148 => 148 | 70 => 117 | 37 => 63 | 75 => 122 | 127 => 150 | 164 => 155 | 80 => 126 | n => n, fun | n => n⟩
theorem rpLays : Go.Proofs.Lays.n105 Tryd.prog rpLays_ren := {
  mixed := by kernel_rfl
  f99 := Tryd.func63.trans (congrArg some (by kernel_rfl))
  f105 := Tryd.func45.trans (congrArg some (by kernel_rfl))
  f165 := Tryd.func64.trans (congrArg some (by kernel_rfl))
  f166 := Tryd.func65.trans (congrArg some (by kernel_rfl))
  f169 := Tryd.func67.trans (congrArg some (by kernel_rfl))
  f170 := Tryd.func66.trans (congrArg some (by kernel_rfl))
  f206 := Tryd.func84.trans (congrArg some (by kernel_rfl))
  f212 := Tryd.func62.trans (congrArg some (by kernel_rfl))
  f240 := Tryd.func85.trans (congrArg some (by kernel_rfl))
  f241 := Tryd.func86.trans (congrArg some (by kernel_rfl))
  f263 := Tryd.func82.trans (congrArg some (by kernel_rfl))
  f264 := Tryd.func83.trans (congrArg some (by kernel_rfl))
  f276 := Tryd.func95.trans (congrArg some (by kernel_rfl))
  f277 := Tryd.func96.trans (congrArg some (by kernel_rfl))
  t0 := Tryd.underlying0
  a0 := Tryd.isAgg0
  z0 := Tryd.sizeOf0
  v0 := Tryd.zeroValue0
  t3 := Tryd.underlying3
  a3 := Tryd.isAgg3
  z3 := Tryd.sizeOf3
  v3 := Tryd.zeroValue3
  t4 := Tryd.underlying4
  a4 := Tryd.isAgg4
  z4 := Tryd.sizeOf4
  v4 := Tryd.zeroValue4
  t5 := Tryd.underlying5
  a5 := Tryd.isAgg5
  z5 := Tryd.sizeOf5
  v5 := Tryd.zeroValue5
  t9 := Tryd.underlying9
  a9 := Tryd.isAgg9
  z9 := Tryd.sizeOf9
  v9 := Tryd.zeroValue9
  t20 := Tryd.underlying20
  a20 := Tryd.isAgg20
  z20 := Tryd.sizeOf20
  v20 := Tryd.zeroValue20
  t37 := Tryd.underlying63
  a37 := Tryd.isAgg63
  z37 := Tryd.sizeOf63
  v37 := Tryd.zeroValue63
  t46 := Tryd.underlying85
  a46 := Tryd.isAgg85
  z46 := Tryd.sizeOf85
  v46 := Tryd.zeroValue85
  t51 := Tryd.underlying102
  a51 := Tryd.isAgg102
  z51 := Tryd.sizeOf102
  v51 := Tryd.zeroValue102
  t53 := Tryd.underlying58
  a53 := Tryd.isAgg58
  z53 := Tryd.sizeOf58
  v53 := Tryd.zeroValue58
  t70 := Tryd.underlying117
  a70 := Tryd.isAgg117
  z70 := Tryd.sizeOf117
  v70 := Tryd.zeroValue117
  t72 := Tryd.underlying119
  a72 := Tryd.isAgg119
  z72 := Tryd.sizeOf119
  v72 := Tryd.zeroValue119
  t75 := Tryd.underlying122
  a75 := Tryd.isAgg122
  z75 := Tryd.sizeOf122
  v75 := Tryd.zeroValue122
  t76 := Tryd.underlying123
  a76 := Tryd.isAgg123
  z76 := Tryd.sizeOf123
  v76 := Tryd.zeroValue123
  t109 := Tryd.underlying115
  a109 := Tryd.isAgg115
  z109 := Tryd.sizeOf115
  v109 := Tryd.zeroValue115
  t127 := Tryd.underlying150
  a127 := Tryd.isAgg150
  z127 := Tryd.sizeOf150
  v127 := Tryd.zeroValue150
  t146 := Tryd.underlying146
  a146 := Tryd.isAgg146
  z146 := Tryd.sizeOf146
  v146 := Tryd.zeroValue146
  t148 := Tryd.underlying148
  a148 := Tryd.isAgg148
  z148 := Tryd.sizeOf148
  v148 := Tryd.zeroValue148
  t164 := Tryd.underlying155
  a164 := Tryd.isAgg155
  z164 := Tryd.sizeOf155
  v164 := Tryd.zeroValue155 }
theorem rpExtra : Builder.Extra Tryd.prog rpLays_ren := {
  sizeBuilder := by kernel_rfl
  liesBuilder := by kernel_rfl
  t5 := Tryd.underlying5
  a5 := Tryd.isAgg5
  z5 := Tryd.sizeOf5
  v5 := Tryd.zeroValue5
  infoByte := by kernel_rfl
  cellsByte := by kernel_rfl
  sizeByte := by kernel_rfl
  neB5 := by decide }
theorem rep_c (x : BitVec 8) (c : Nat) (hc : c ≤ 100000) (w : World) :
    Calls Tryd.prog 45 #[.string (str [x]), .int .i64 c] w fun e w' => e = .returned (.string (str (List.replicate c x))) ∧ Below w.heap.size w w' := by
  have hs : (str [x]).size = 1 := rfl
  refine (Any.strings_Repeat rpLays rpExtra (str [x]) c w (by omega) (by rw [hs]; omega)).mono fun e w' h => ⟨?_, h.2⟩
  rw [h.1, show (str [x]).data.toList = List.replicate 1 (UInt8.ofBitVec x) from rfl, Lib.repeatL_replicate, Nat.mul_one]
  unfold str
  rw [List.map_replicate]
end Go.Proofs.YtepogbfkmflooaaDoor
