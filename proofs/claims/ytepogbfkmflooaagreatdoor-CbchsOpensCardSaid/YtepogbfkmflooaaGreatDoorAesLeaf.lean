/-
  AES: what the small functions of the program compute. No conditions. AES: the reference's substitution is that of the table; the way back. No conditions. strings.Repeat of one byte, by the library's contract (laid by the kit's lay-shelf and lay-plain, cut to what is used). Conditions as it says. Steps of a walk, part 7: an element of an array's value. No conditions.
-/
import Derived.Test.YtepogbfkmflooaaGreatDoorRows
import Derived.Test.YtepogbfkmflooaaGreatDoorAesPlain
import Derived.Test.YtepogbfkmflooaaGreatDoorQuiet
import Derived.Test.YtepogbfkmflooaaGreatDoorArr
import Derived.ProofKit
import Derived.Deep.QuietTactic
import Derived.BigQuiet
import Derived.StillTailTactics
import Derived.Deep.RegionHeld3
import Derived.Deep.LoopGhost
import Derived.Shelf.Strings.Repeat
import Derived.Test.YtepogbfkmflooaaGreatDoorGenMore
namespace Go.Proofs.YtepogbfkmflooaaGreatDoor
open Go.RowKit
set_option linter.unusedSimpArgs false
set_option linter.unusedVariables false
theorem ret_u8 {a b : BitVec 8} (h : a = b) : Ending.returned (U8 a) = .returned (U8 b) := by rw [h]

theorem ret_bool {a b : Bool} (h : a = b) : Ending.returned (.bool a) = .returned (.bool b) := by rw [h]

theorem double_c (b : BitVec 8) (w : World) : Calls Tryz.prog 88 #[U8 b] w fun e w' => e = .returned (U8 (Aes.xt b)) ∧ w = w' := by
  go_enter Tryz.func88, Tryz.ntmps88
  go_wp2
  · go_ret
    exact ⟨ret_u8 (by rw [Aes.xt, if_pos ‹_›]), rfl⟩
  · go_ret
    exact ⟨ret_u8 (by rw [Aes.xt, if_neg ‹_›]), rfl⟩

theorem mul_c (a b : BitVec 8) (w : World) : Calls Tryz.prog 89 #[U8 a, U8 b] w fun e w' => e = .returned (U8 (Aes.mul a b)) ∧ w = w' := by
  go_enter Tryz.func89, Tryz.ntmps89
  go_wp2
  go_loop [0, 1, 5] (fun x y o => ∃ (k : Nat) (a' b' o' : BitVec 8), x = U8 a' ∧ y = U8 b' ∧ o = U8 o' ∧ b'.toNat < 2 ^ k ∧ Hid (Aes.gm k a' b' o' = Aes.mul a b)) (fun _ y _ => (intOf y).toNat)
  case atStart => exact ⟨8, a, b, 0#8, rfl, rfl, rfl, b.isLt, rfl⟩
  case round =>
    obtain ⟨k, a', b', o', rfl, rfl, rfl, hk, H⟩ := hrel
    by_cases h0 : 0 < b'.toNat
    · obtain ⟨k, rfl⟩ : ∃ j, k = j + 1 := by
        cases k with
        | zero => simp at hk; omega
        | succ j => exact ⟨j, rfl⟩
      have hp := Aes.half_pow b' k hk
      have hl := Aes.half_lt b' h0
      have H2 : Hid (Aes.gm k (Aes.xt a') (b' >>> 1) (if b' &&& 1#8 == 1#8 then o' ^^^ a' else o') = Aes.mul a b) := H.out
      clear H
      go_wp2_with (go_at_call 88; refine (double_c _ _).mono ?_; rintro e w' ⟨rfl, rfl⟩)
      · go_round
        case rel => exact ⟨k, _, _, _, rfl, rfl, rfl, hp, by have h := H2.out; rw [if_pos ‹_›] at h; exact h⟩
        case measure => simp only [intOf, U8, Int.toNat_natCast]; exact hl
      · go_round
        case rel => exact ⟨k, _, _, _, rfl, rfl, rfl, hp, by have h := H2.out; rw [if_neg (by simp [*])] at h; exact h⟩
        case measure => simp only [intOf, U8, Int.toNat_natCast]; exact hl
    · have e : b' = 0#8 := BitVec.eq_of_toNat_eq (by simp; omega)
      go_wp2
      go_ret
      refine ⟨ret_u8 ?_, rfl⟩
      rw [← H.out, e, Aes.gm_zero]

theorem turned_c (b : BitVec 8) (n : Int) (w : World) (h0 : 0 ≤ n) (h1 : n ≤ 8) :
    Calls Tryz.prog 87 #[U8 b, .int .i64 n] w fun e w' => e = .returned (U8 (Aes.turned b n.toNat)) ∧ ∃ k, w' = w.drewN k := by
  have h2 : 0 ≤ 8 - n := by omega
  go_enter Tryz.func87, Tryz.ntmps87
  go_wp2
  go_quiet (fail)
  go_wp2
  go_ret
  refine ⟨ret_u8 ?_, _, rfl⟩
  rw [Aes.turned, show (8 - n).toNat = 8 - n.toNat from by omega]

theorem twice_c (x : BitVec 32) (w : World) : Calls Tryz.prog 95 #[U32 x] w fun e w' => e = .returned (U32 (Aes.tw x)) ∧ w = w' := by
  go_enter Tryz.func95, Tryz.ntmps95
  go_wp2
  go_ret
  exact ⟨rfl, rfl⟩
theorem mix_c (x : BitVec 32) (w : World) : Calls Tryz.prog 78 #[U32 x] w fun e w' => e = .returned (U32 (Aes.mix x)) ∧ w = w' := by
  go_enter Tryz.func78, Tryz.ntmps78
  go_wp2_with (go_at_call 95; refine (twice_c _ _).mono ?_; rintro e w' ⟨rfl, rfl⟩)
  go_ret
  exact ⟨rfl, rfl⟩
theorem right_c (n : Int) (w : World) : Calls Tryz.prog 67 #[.int .i64 n] w fun e w' => e = .returned (.bool (decide (n = 16 ∨ n = 24 ∨ n = 32))) ∧ w = w' := by
  go_enter Tryz.func67, Tryz.ntmps67
  go_wp2
  · go_ret
    exact ⟨ret_bool (by simp [*]), rfl⟩
  · go_ret
    exact ⟨ret_bool (by simp [*]), rfl⟩
  · go_ret
    exact ⟨ret_bool (by rw [Bool.eq_iff_iff]; simp [or_assoc]), rfl⟩
theorem subWord_c (g off : Nat) (s : Nat → BitVec 8) (x : BitVec 32) (w : World) (hr : ∀ i, i < 256 → w.cell? ⟨g, off + i, none⟩ = some (U8 (s i))) :
    Calls Tryz.prog 77 #[.pointer (some ⟨g, off, none⟩), U32 x] w fun e w' => e = .returned (U32 (Aes.subW s x)) ∧ ∃ k, w' = w.drewN k := by
  have b1 := Aes.idx_high x
  have b2 := Aes.idx_low (x >>> 16)
  have b3 := Aes.idx_low (x >>> 8)
  have b4 := Aes.idx_low x
  have c1 := hr _ b1
  have c2 := hr _ b2
  have c3 := hr _ b3
  have c4 := hr _ b4
  clear hr
  go_enter Tryz.func77, Tryz.ntmps77
  go_wp2
  go_quiet (fail)
  go_wp2
  go_ret
  exact ⟨rfl, nq, rfl⟩

theorem load_c (s : ByteArray) (w : World) (hs : s.size = 16) :
    Calls Tryz.prog 76 #[.string s] w fun e w' => e = .returned (.agg #[U32 (Aes.col (byt s) 0), U32 (Aes.col (byt s) 1), U32 (Aes.col (byt s) 2), U32 (Aes.col (byt s) 3)]) ∧ Below w.heap.size w w' := by
  have hs1 : 16 ≤ s.size := by omega
  have hs2 : s.size ≤ 16 := by omega
  clear hs
  go_enter Tryz.func76, Tryz.ntmps76
  go_wp2
  go_loopw [3, 4] (fun v i wr => ∃ k : Nat, k ≤ 4 ∧ i = .int .i64 k ∧ Row wr w.heap.size 130 4 (fun j => if j < k then U32 (Aes.col (byt s) j) else U32 0#32) ∧ Below w.heap.size w wr) (fun _ i _ => 4 - (intOf i).toNat)
  case atStart =>
    exact ⟨0, by omega, rfl, Row.fresh rfl (all4 rfl rfl rfl rfl), (Below.refl _ _).alloc (Nat.le_refl _) _⟩
  case round =>
    obtain ⟨k, hk, rfl, hrow, hb⟩ := hrel
    by_cases hlt : k < 4
    · have hc := hrow.cell (i := k) hlt
      rw [if_neg (Nat.lt_irrefl k)] at hc
      have hz := hrow.frozen (i := k) hlt
      go_wp2
      refine wp_region_tail (fun w' => ∃ n, w' = wr.drewN n) 31 (by kernel_rfl) (by kernel_rfl) ⟨1, rfl⟩ ?_
      simp only [List.take_succ_cons, List.take_zero, List.drop_succ_cons, List.drop_zero]
      repeat (go_big_quiet_step (fail))
      refine wpQuiet_nil ?_
      intro w' hw'; obtain ⟨nq, rfl⟩ := hw'
      go_wp2
      refine ⟨⟨k + 1, by omega, by go_num, ((hrow.drewN nq).set_ k _).congr ?_, (below_drewN hb nq).setCell (Nat.le_refl _) _⟩, by simp [intOf]; omega⟩
      intro i hi
      by_cases e : i = k
      · subst e
        rw [if_pos rfl, if_pos (by omega)]
        rfl
      · rw [if_neg e]
        by_cases e2 : i < k
        · rw [if_pos e2, if_pos (by omega)]
        · rw [if_neg e2, if_neg (by omega)]
    · obtain rfl : k = 4 := by omega
      have h0 := hrow.cell (i := 0) (by omega)
      have h1 := hrow.cell (i := 1) (by omega)
      have h2 := hrow.cell (i := 2) (by omega)
      have h3 := hrow.cell (i := 3) (by omega)
      have z0 := hrow.frozen (i := 0) (by omega)
      have z1 := hrow.frozen (i := 1) (by omega)
      have z2 := hrow.frozen (i := 2) (by omega)
      have z3 := hrow.frozen (i := 3) (by omega)
      rw [if_pos (by omega)] at h0 h1 h2 h3
      go_wp2
      exact bodyPost_ret (v := .agg #[U32 (Aes.col (byt s) 0), U32 (Aes.col (byt s) 1), U32 (Aes.col (byt s) 2), U32 (Aes.col (byt s) 3)]) (by simp [results, Tryz.results76, go_sem, h0, h1, h2, h3]) rfl
        ⟨rfl, (((hb.setCell (Nat.le_refl _) _).setCell (Nat.le_refl _) _).setCell (Nat.le_refl _) _).setCell (Nat.le_refl _) _⟩
end Go.Proofs.YtepogbfkmflooaaGreatDoor
namespace Go.Proofs.YtepogbfkmflooaaGreatDoor
namespace Aes
/-- the way back, as one number of 256 bytes -/
def bkN : Nat := 0x7d0c2155631469e126d677ba7e042b17619953833cbbebc8b0f52aae4d3be0a0ef9cc9939f7ae52d0d4ab519a97f51605fec8027591012b131c7078833a8dd1ff45acd78fec0db9a2079d2c64b3e56fc1bbe18aa0e62b76f89c5291d711af1476edf751ce837f9e28535ade72274ac9673e6b4f0cecff297eadc674f4111913a6b8a130103bdafc1020f3fca8f1e2cd00645b3b80558e4f70ad3bc8c00abd890849d8da75746155edab9edfd5048706c92b6655dcc5ca4d41698688664f6f87225d18b6d49a25b76b224d92866a12e084ec3fa420b954cee3d23c2a632947b54cbe9dec444438e3487ff2f9b8239e37cfbd7f3819ea340bf38a53630d56a0952
def bk (i : Nat) : BitVec 8 := BitVec.ofNat 8 (bkN >>> (8 * i))
theorem bk_sb_all : ∀ n, n < 256 → bk (sb n).toNat = BitVec.ofNat 8 n := by decide +kernel
theorem sb_bk_all : ∀ n, n < 256 → sb (bk n).toNat = BitVec.ofNat 8 n := by decide +kernel
theorem bk_sb (b : BitVec 8) : bk (sb b.toNat).toNat = b := by rw [bk_sb_all _ b.isLt]; simp
theorem sb_bk (b : BitVec 8) : sb (bk b.toNat).toNat = b := by rw [sb_bk_all _ b.isLt]; simp
/-- powers -/
def pw (b : BitVec 8) : Nat → BitVec 8
  | 0 => 1#8
  | k + 1 => mul (pw b k) b
def rol (x : BitVec 8) : BitVec 8 := x <<< 1 ||| x >>> 7
/-- the reference's rotations: (x, out) after k rounds -/
def rr (x : BitVec 8) : Nat → BitVec 8 × BitVec 8
  | 0 => (x, x)
  | k + 1 => (rol (rr x k).1, (rr x k).2 ^^^ rol (rr x k).1)
end Aes
end Go.Proofs.YtepogbfkmflooaaGreatDoor
namespace Go.Proofs.YtepogbfkmflooaaGreatDoor
open Go.Shelf Go.RowKit
def rpLays_ren : Go.Shelf.Ren := ⟨fun | 105 => 53 | 212 => 70 | 99 => 71 | 165 => 72 | 166 => 73 | 170 => 74 | 169 => 75 | 263 => 90 | 264 => 91 | 206 => 92 | 240 => 93 | 241 => 94 | 276 => 103 | 277 => 104 | n => n, fun | 9 => 9 | 3 => 3 | 4 => 4 | 20 => 20 | 0 => 0 | 46 => 64 | 109 => 118 | 5 => 5 | 72 => 122 | 76 => 126 | 51 => 105 | 146 => 148 | 53 => 40 | 148 => 150 | 70 => 120 | 37 => 47 | 75 => 125 | 127 => 152 | 164 => 156 | 80 => 129 | n => n, fun | n => n⟩
theorem rpLays : Go.Proofs.Lays.n105 Tryz.prog rpLays_ren := {
  mixed := by kernel_rfl
  f99 := Tryz.func71.trans (congrArg some (by kernel_rfl))
  f105 := Tryz.func53.trans (congrArg some (by kernel_rfl))
  f165 := Tryz.func72.trans (congrArg some (by kernel_rfl))
  f166 := Tryz.func73.trans (congrArg some (by kernel_rfl))
  f169 := Tryz.func75.trans (congrArg some (by kernel_rfl))
  f170 := Tryz.func74.trans (congrArg some (by kernel_rfl))
  f206 := Tryz.func92.trans (congrArg some (by kernel_rfl))
  f212 := Tryz.func70.trans (congrArg some (by kernel_rfl))
  f240 := Tryz.func93.trans (congrArg some (by kernel_rfl))
  f241 := Tryz.func94.trans (congrArg some (by kernel_rfl))
  f263 := Tryz.func90.trans (congrArg some (by kernel_rfl))
  f264 := Tryz.func91.trans (congrArg some (by kernel_rfl))
  f276 := Tryz.func103.trans (congrArg some (by kernel_rfl))
  f277 := Tryz.func104.trans (congrArg some (by kernel_rfl))
  t0 := Tryz.underlying0
  a0 := Tryz.isAgg0
  z0 := Tryz.sizeOf0
  v0 := Tryz.zeroValue0
  t3 := Tryz.underlying3
  a3 := Tryz.isAgg3
  z3 := Tryz.sizeOf3
  v3 := Tryz.zeroValue3
  t4 := Tryz.underlying4
  a4 := Tryz.isAgg4
  z4 := Tryz.sizeOf4
  v4 := Tryz.zeroValue4
  t5 := Tryz.underlying5
  a5 := Tryz.isAgg5
  z5 := Tryz.sizeOf5
  v5 := Tryz.zeroValue5
  t9 := Tryz.underlying9
  a9 := Tryz.isAgg9
  z9 := Tryz.sizeOf9
  v9 := Tryz.zeroValue9
  t20 := Tryz.underlying20
  a20 := Tryz.isAgg20
  z20 := Tryz.sizeOf20
  v20 := Tryz.zeroValue20
  t37 := Tryz.underlying47
  a37 := Tryz.isAgg47
  z37 := Tryz.sizeOf47
  v37 := Tryz.zeroValue47
  t46 := Tryz.underlying64
  a46 := Tryz.isAgg64
  z46 := Tryz.sizeOf64
  v46 := Tryz.zeroValue64
  t51 := Tryz.underlying105
  a51 := Tryz.isAgg105
  z51 := Tryz.sizeOf105
  v51 := Tryz.zeroValue105
  t53 := Tryz.underlying40
  a53 := Tryz.isAgg40
  z53 := Tryz.sizeOf40
  v53 := Tryz.zeroValue40
  t70 := Tryz.underlying120
  a70 := Tryz.isAgg120
  z70 := Tryz.sizeOf120
  v70 := Tryz.zeroValue120
  t72 := Tryz.underlying122
  a72 := Tryz.isAgg122
  z72 := Tryz.sizeOf122
  v72 := Tryz.zeroValue122
  t75 := Tryz.underlying125
  a75 := Tryz.isAgg125
  z75 := Tryz.sizeOf125
  v75 := Tryz.zeroValue125
  t76 := Tryz.underlying126
  a76 := Tryz.isAgg126
  z76 := Tryz.sizeOf126
  v76 := Tryz.zeroValue126
  t109 := Tryz.underlying118
  a109 := Tryz.isAgg118
  z109 := Tryz.sizeOf118
  v109 := Tryz.zeroValue118
  t127 := Tryz.underlying152
  a127 := Tryz.isAgg152
  z127 := Tryz.sizeOf152
  v127 := Tryz.zeroValue152
  t146 := Tryz.underlying148
  a146 := Tryz.isAgg148
  z146 := Tryz.sizeOf148
  v146 := Tryz.zeroValue148
  t148 := Tryz.underlying150
  a148 := Tryz.isAgg150
  z148 := Tryz.sizeOf150
  v148 := Tryz.zeroValue150
  t164 := Tryz.underlying156
  a164 := Tryz.isAgg156
  z164 := Tryz.sizeOf156
  v164 := Tryz.zeroValue156 }
theorem rpExtra : Builder.Extra Tryz.prog rpLays_ren := {
  sizeBuilder := by kernel_rfl
  liesBuilder := by kernel_rfl
  t5 := Tryz.underlying5
  a5 := Tryz.isAgg5
  z5 := Tryz.sizeOf5
  v5 := Tryz.zeroValue5
  infoByte := by kernel_rfl
  cellsByte := by kernel_rfl
  sizeByte := by kernel_rfl
  neB5 := by decide }
theorem rep_c (x : BitVec 8) (c : Nat) (hc : c ≤ 100000) (w : World) :
    Calls Tryz.prog 53 #[.string (str [x]), .int .i64 c] w fun e w' => e = .returned (.string (str (List.replicate c x))) ∧ Below w.heap.size w w' := by
  have hs : (str [x]).size = 1 := rfl
  refine (Any.strings_Repeat rpLays rpExtra (str [x]) c w (by omega) (by rw [hs]; omega)).mono fun e w' h => ⟨?_, h.2⟩
  rw [h.1, show (str [x]).data.toList = List.replicate 1 (UInt8.ofBitVec x) from rfl, Lib.repeatL_replicate, Nat.mul_one]
  unfold str
  rw [List.map_replicate]
end Go.Proofs.YtepogbfkmflooaaGreatDoor
namespace Go.Proofs.YtepogbfkmflooaaGreatDoor
open Go.RowKit
set_option linter.unusedSimpArgs false
set_option linter.unusedVariables false
section
variable {P : Program} {w : World} {n : Nat} {f : Nat → Value}
variable {ty : TypeId} {x y : Operand} {v : Value} {t e : TypeId} {F : Nat → Value} {a : Int}
theorem y_idxa {m i : Nat} {k : IntKind} (hx : Ev n f x (.agg (arr m F))) (hy : Ev n f y (.int k a)) (ht : P.underlying t = some (.array m e)) (hu : (P.underlying e).map scal = some true) (hs : (P.info? e).map (·.size) = some 1) (hi : a = (i : Int)) (hlt : i < m) : Yields P n f (.index t x y) ty w (F i) := by
  have h1 : (fr n f).eval x = .agg (arr m F) := hx
  have h2 : (fr n f).eval y = .int k a := hy
  subst hi
  obtain ⟨d, h3, h4⟩ := Option.map_eq_some_iff.1 hu
  have hag : (isAgg e).run P w = .ok false w := by
    unfold isAgg
    rw [Sem.run_bind, run_underlying h3 w]
    cases d <;> simp_all [scal]
  obtain ⟨inf, h5, h6⟩ := Option.map_eq_some_iff.1 hs
  have hsz : (sizeOf e).run P w = .ok 1 w := by
    simp [sizeOf, typeInfo, Sem.run_bind, h5, h6]
  unfold Yields execOp
  simp only [h1, h2]
  have hlt' : (0 : Int) ≤ (i : Int) ∧ (i : Int) < (m : Int) := ⟨by omega, by omega⟩
  simp [Instr.index, asIntOf, Sem.run_bind, run_underlying ht, hlt, hsz, part, hag, arr_at _ _ _ hlt, go_sem]
end
end Go.Proofs.YtepogbfkmflooaaGreatDoor
