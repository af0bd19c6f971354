/-
  strings.Repeat of one byte, by the library's contract (laid by the kit's lay-shelf and lay-plain, cut to what is used). Conditions as it says.
-/
import Derived.Shelf.Strings.Repeat
import Derived.Test.YtkjdejadambffaaDoorRows
import Derived.Test.YtkjdejadambffaaDoorWords
import Derived.ProofKit
namespace Go.Proofs.YtkjdejadambffaaDoor
open Go.Shelf Go.RowKit
def rpLays_ren : Go.Shelf.Ren := ⟨fun | 105 => 33 | 212 => 55 | 99 => 56 | 165 => 57 | 166 => 58 | 170 => 59 | 169 => 60 | 263 => 78 | 264 => 79 | 206 => 80 | 240 => 81 | 241 => 82 | 276 => 85 | 277 => 86 | n => n, fun | 9 => 9 | 3 => 3 | 4 => 4 | 20 => 20 | 0 => 0 | 46 => 72 | 109 => 102 | 5 => 5 | 72 => 106 | 76 => 110 | 51 => 84 | 146 => 133 | 53 => 62 | 148 => 135 | 70 => 104 | 37 => 50 | 75 => 109 | 127 => 137 | 164 => 142 | 80 => 113 | n => n, fun | n => n⟩
theorem rpLays : Go.Proofs.Lays.n105 Tryd.prog rpLays_ren := {
  mixed := by kernel_rfl
  f99 := Tryd.func56.trans (congrArg some (by kernel_rfl))
  f105 := Tryd.func33.trans (congrArg some (by kernel_rfl))
  f165 := Tryd.func57.trans (congrArg some (by kernel_rfl))
  f166 := Tryd.func58.trans (congrArg some (by kernel_rfl))
  f169 := Tryd.func60.trans (congrArg some (by kernel_rfl))
  f170 := Tryd.func59.trans (congrArg some (by kernel_rfl))
  f206 := Tryd.func80.trans (congrArg some (by kernel_rfl))
  f212 := Tryd.func55.trans (congrArg some (by kernel_rfl))
  f240 := Tryd.func81.trans (congrArg some (by kernel_rfl))
  f241 := Tryd.func82.trans (congrArg some (by kernel_rfl))
  f263 := Tryd.func78.trans (congrArg some (by kernel_rfl))
  f264 := Tryd.func79.trans (congrArg some (by kernel_rfl))
  f276 := Tryd.func85.trans (congrArg some (by kernel_rfl))
  f277 := Tryd.func86.trans (congrArg some (by kernel_rfl))
  t0 := Tryd.underlying0
  a0 := Tryd.isAgg0
  z0 := Tryd.sizeOf0
  v0 := Tryd.zeroValue0
  t3 := Tryd.underlying3
  a3 := Tryd.isAgg3
  z3 := Tryd.sizeOf3
  v3 := Tryd.zeroValue3
  t4 := Tryd.underlying4
  a4 := Tryd.isAgg4
  z4 := Tryd.sizeOf4
  v4 := Tryd.zeroValue4
  t5 := Tryd.underlying5
  a5 := Tryd.isAgg5
  z5 := Tryd.sizeOf5
  v5 := Tryd.zeroValue5
  t9 := Tryd.underlying9
  a9 := Tryd.isAgg9
  z9 := Tryd.sizeOf9
  v9 := Tryd.zeroValue9
  t20 := Tryd.underlying20
  a20 := Tryd.isAgg20
  z20 := Tryd.sizeOf20
  v20 := Tryd.zeroValue20
  t37 := Tryd.underlying50
  a37 := Tryd.isAgg50
  z37 := Tryd.sizeOf50
  v37 := Tryd.zeroValue50
  t46 := Tryd.underlying72
  a46 := Tryd.isAgg72
  z46 := Tryd.sizeOf72
  v46 := Tryd.zeroValue72
  t51 := Tryd.underlying84
  a51 := Tryd.isAgg84
  z51 := Tryd.sizeOf84
  v51 := Tryd.zeroValue84
  t53 := Tryd.underlying62
  a53 := Tryd.isAgg62
  z53 := Tryd.sizeOf62
  v53 := Tryd.zeroValue62
  t70 := Tryd.underlying104
  a70 := Tryd.isAgg104
  z70 := Tryd.sizeOf104
  v70 := Tryd.zeroValue104
  t72 := Tryd.underlying106
  a72 := Tryd.isAgg106
  z72 := Tryd.sizeOf106
  v72 := Tryd.zeroValue106
  t75 := Tryd.underlying109
  a75 := Tryd.isAgg109
  z75 := Tryd.sizeOf109
  v75 := Tryd.zeroValue109
  t76 := Tryd.underlying110
  a76 := Tryd.isAgg110
  z76 := Tryd.sizeOf110
  v76 := Tryd.zeroValue110
  t109 := Tryd.underlying102
  a109 := Tryd.isAgg102
  z109 := Tryd.sizeOf102
  v109 := Tryd.zeroValue102
  t127 := Tryd.underlying137
  a127 := Tryd.isAgg137
  z127 := Tryd.sizeOf137
  v127 := Tryd.zeroValue137
  t146 := Tryd.underlying133
  a146 := Tryd.isAgg133
  z146 := Tryd.sizeOf133
  v146 := Tryd.zeroValue133
  t148 := Tryd.underlying135
  a148 := Tryd.isAgg135
  z148 := Tryd.sizeOf135
  v148 := Tryd.zeroValue135
  t164 := Tryd.underlying142
  a164 := Tryd.isAgg142
  z164 := Tryd.sizeOf142
  v164 := Tryd.zeroValue142 }
theorem rpExtra : Builder.Extra Tryd.prog rpLays_ren := {
  sizeBuilder := by kernel_rfl
  liesBuilder := by kernel_rfl
  t5 := Tryd.underlying5
  a5 := Tryd.isAgg5
  z5 := Tryd.sizeOf5
  v5 := Tryd.zeroValue5
  infoByte := by kernel_rfl
  cellsByte := by kernel_rfl
  sizeByte := by kernel_rfl
  neB5 := by decide }
theorem rep_c (x : BitVec 8) (c : Nat) (hc : c ≤ 100000) (w : World) :
    Calls Tryd.prog 33 #[.string (str [x]), .int .i64 c] w fun e w' => e = .returned (.string (str (List.replicate c x))) ∧ Below w.heap.size w w' := by
  have hs : (str [x]).size = 1 := rfl
  refine (Any.strings_Repeat rpLays rpExtra (str [x]) c w (by omega) (by rw [hs]; omega)).mono fun e w' h => ⟨?_, h.2⟩
  rw [h.1, show (str [x]).data.toList = List.replicate 1 (UInt8.ofBitVec x) from rfl, Lib.repeatL_replicate, Nat.mul_one]
  unfold str
  rw [List.map_replicate]
end Go.Proofs.YtkjdejadambffaaDoor
