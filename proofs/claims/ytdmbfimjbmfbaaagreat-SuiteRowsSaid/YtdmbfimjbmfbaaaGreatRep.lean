/-
  strings.Repeat of one byte, by the library's contract (laid by the kit's lay-shelf and lay-plain, cut to what is used). Conditions as it says.
-/
import Derived.Shelf.Strings.Repeat
import Derived.Test.YtdmbfimjbmfbaaaGreatRows
import Derived.Test.YtdmbfimjbmfbaaaGreatMem
import Derived.ProofKit
namespace Go.Proofs.YtdmbfimjbmfbaaaGreat
open Go.Shelf Go.RowKit
def rpLays_ren : Go.Shelf.Ren := ⟨fun | 105 => 37 | 212 => 51 | 99 => 52 | 165 => 53 | 166 => 54 | 170 => 55 | 169 => 56 | 263 => 69 | 264 => 70 | 206 => 71 | 240 => 72 | 241 => 73 | 276 => 76 | 277 => 77 | n => n, fun | 9 => 9 | 3 => 3 | 4 => 4 | 20 => 20 | 0 => 0 | 46 => 107 | 109 => 108 | 5 => 5 | 72 => 113 | 76 => 117 | 51 => 55 | 146 => 134 | 53 => 83 | 148 => 136 | 70 => 110 | 37 => 111 | 75 => 116 | 127 => 59 | 164 => 141 | 80 => 48 | n => n, fun | n => n⟩
theorem rpLays : Go.Proofs.Lays.n105 Tryz.prog rpLays_ren := {
  mixed := by kernel_rfl
  f99 := Tryz.func52.trans (congrArg some (by kernel_rfl))
  f105 := Tryz.func37.trans (congrArg some (by kernel_rfl))
  f165 := Tryz.func53.trans (congrArg some (by kernel_rfl))
  f166 := Tryz.func54.trans (congrArg some (by kernel_rfl))
  f169 := Tryz.func56.trans (congrArg some (by kernel_rfl))
  f170 := Tryz.func55.trans (congrArg some (by kernel_rfl))
  f206 := Tryz.func71.trans (congrArg some (by kernel_rfl))
  f212 := Tryz.func51.trans (congrArg some (by kernel_rfl))
  f240 := Tryz.func72.trans (congrArg some (by kernel_rfl))
  f241 := Tryz.func73.trans (congrArg some (by kernel_rfl))
  f263 := Tryz.func69.trans (congrArg some (by kernel_rfl))
  f264 := Tryz.func70.trans (congrArg some (by kernel_rfl))
  f276 := Tryz.func76.trans (congrArg some (by kernel_rfl))
  f277 := Tryz.func77.trans (congrArg some (by kernel_rfl))
  t0 := Tryz.underlying0
  a0 := Tryz.isAgg0
  z0 := Tryz.sizeOf0
  v0 := Tryz.zeroValue0
  t3 := Tryz.underlying3
  a3 := Tryz.isAgg3
  z3 := Tryz.sizeOf3
  v3 := Tryz.zeroValue3
  t4 := Tryz.underlying4
  a4 := Tryz.isAgg4
  z4 := Tryz.sizeOf4
  v4 := Tryz.zeroValue4
  t5 := Tryz.underlying5
  a5 := Tryz.isAgg5
  z5 := Tryz.sizeOf5
  v5 := Tryz.zeroValue5
  t9 := Tryz.underlying9
  a9 := Tryz.isAgg9
  z9 := Tryz.sizeOf9
  v9 := Tryz.zeroValue9
  t20 := Tryz.underlying20
  a20 := Tryz.isAgg20
  z20 := Tryz.sizeOf20
  v20 := Tryz.zeroValue20
  t37 := Tryz.underlying111
  a37 := Tryz.isAgg111
  z37 := Tryz.sizeOf111
  v37 := Tryz.zeroValue111
  t46 := Tryz.underlying107
  a46 := Tryz.isAgg107
  z46 := Tryz.sizeOf107
  v46 := Tryz.zeroValue107
  t51 := Tryz.underlying55
  a51 := Tryz.isAgg55
  z51 := Tryz.sizeOf55
  v51 := Tryz.zeroValue55
  t53 := Tryz.underlying83
  a53 := Tryz.isAgg83
  z53 := Tryz.sizeOf83
  v53 := Tryz.zeroValue83
  t70 := Tryz.underlying110
  a70 := Tryz.isAgg110
  z70 := Tryz.sizeOf110
  v70 := Tryz.zeroValue110
  t72 := Tryz.underlying113
  a72 := Tryz.isAgg113
  z72 := Tryz.sizeOf113
  v72 := Tryz.zeroValue113
  t75 := Tryz.underlying116
  a75 := Tryz.isAgg116
  z75 := Tryz.sizeOf116
  v75 := Tryz.zeroValue116
  t76 := Tryz.underlying117
  a76 := Tryz.isAgg117
  z76 := Tryz.sizeOf117
  v76 := Tryz.zeroValue117
  t109 := Tryz.underlying108
  a109 := Tryz.isAgg108
  z109 := Tryz.sizeOf108
  v109 := Tryz.zeroValue108
  t127 := Tryz.underlying59
  a127 := Tryz.isAgg59
  z127 := Tryz.sizeOf59
  v127 := Tryz.zeroValue59
  t146 := Tryz.underlying134
  a146 := Tryz.isAgg134
  z146 := Tryz.sizeOf134
  v146 := Tryz.zeroValue134
  t148 := Tryz.underlying136
  a148 := Tryz.isAgg136
  z148 := Tryz.sizeOf136
  v148 := Tryz.zeroValue136
  t164 := Tryz.underlying141
  a164 := Tryz.isAgg141
  z164 := Tryz.sizeOf141
  v164 := Tryz.zeroValue141 }
theorem rpExtra : Builder.Extra Tryz.prog rpLays_ren := {
  sizeBuilder := by kernel_rfl
  liesBuilder := by kernel_rfl
  t5 := Tryz.underlying5
  a5 := Tryz.isAgg5
  z5 := Tryz.sizeOf5
  v5 := Tryz.zeroValue5
  infoByte := by kernel_rfl
  cellsByte := by kernel_rfl
  sizeByte := by kernel_rfl
  neB5 := by decide }
theorem rep_c (x : BitVec 8) (c : Nat) (hc : c ≤ 100000) (w : World) :
    Calls Tryz.prog 37 #[.string (str [x]), .int .i64 c] w fun e w' => e = .returned (.string (str (List.replicate c x))) ∧ Below w.heap.size w w' := by
  have hs : (str [x]).size = 1 := rfl
  refine (Any.strings_Repeat rpLays rpExtra (str [x]) c w (by omega) (by rw [hs]; omega)).mono fun e w' h => ⟨?_, h.2⟩
  rw [h.1, show (str [x]).data.toList = List.replicate 1 (UInt8.ofBitVec x) from rfl, Lib.repeatL_replicate, Nat.mul_one]
  unfold str
  rw [List.map_replicate]
end Go.Proofs.YtdmbfimjbmfbaaaGreat
