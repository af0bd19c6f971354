/-
  AES: the cipher that the program makes of a key. No conditions.
-/
import Derived.Test.YtepogbfkmflooaaDoorAesBox
import Derived.Test.YtepogbfkmflooaaDoorAesExpand
namespace Go.Proofs.YtepogbfkmflooaaDoor
open Go.RowKit
set_option linter.unusedSimpArgs false
set_option linter.unusedVariables false
/-- what the cells of a cipher hold; D: the block of the words for the way back, once they are made -/
def ciph (bk : Nat → BitVec 8) (L g : Nat) (D : Option Nat) : Nat → Value := fun i =>
  if i < 256 then U8 (Aes.sb i) else if i = 256 then .slice (some ⟨g, 0, none⟩) L L else if i = 257 then .int .u32 (if D.isSome then 1 else 0)
  else if i = 258 then .int .i32 0 else if i = 259 then .int .u32 0 else if i < 516 then (if D.isSome then U8 (bk (i - 260)) else .int .u8 0)
  else match D with
    | none => .slice none 0 0
    | some u => .slice (some ⟨u, 0, none⟩) L L
/-- as it is before its words are laid in -/
def ciph0 (f : Nat → Value) : Nat → Value := fun i =>
  if i < 256 then f i else if i = 256 then .slice none 0 0 else if i = 257 then .int .u32 0 else if i = 258 then .int .i32 0 else if i = 259 then .int .u32 0
  else if i < 516 then .int .u8 0 else .slice none 0 0
/-- a cipher lies at block b -/
def CiphAt (bk : Nat → BitVec 8) (U : List (BitVec 32) → List (BitVec 32)) (w : World) (b : Nat) (W : List (BitVec 32)) : Prop :=
  ∃ (g : Nat) (D : Option Nat), Row w b 112 517 (ciph bk W.length g D) ∧ Row w g 102 W.length (fun j => U32 (Aes.gw W j)) ∧
    ∀ u, D = some u → u ≠ g ∧ Row w u 102 W.length (fun j => U32 (Aes.gw (U W) j))
theorem CiphAt.below {bk U} {w w' : World} {b : Nat} {W} (h : CiphAt bk U w b W) (hb : Below w.heap.size w w') : CiphAt bk U w' b W := by
  obtain ⟨g, D, h1, h2, h3⟩ := h
  exact ⟨g, D, h1.below hb h1.lt, h2.below hb h2.lt, fun u hu => ⟨(h3 u hu).1, (h3 u hu).2.below hb (h3 u hu).2.lt⟩⟩
theorem CiphAt.lt {bk U} {w : World} {b : Nat} {W} (h : CiphAt bk U w b W) : b < w.heap.size := by
  obtain ⟨g, D, h1, h2, h3⟩ := h
  exact h1.lt
theorem build_cipher (f : Nat → Value) (w : World) : (Instr.build 112 #[(0, .agg (arr 256 f))]).run Tryd.prog w = .ok (.agg (arr 517 (ciph0 f))) w := by kernel_rfl
theorem right_yes (n : Int) (w : World) (h : n = 16 ∨ n = 24 ∨ n = 32) : Calls Tryd.prog 59 #[.int .i64 n] w fun e w' => e = .returned (.bool true) ∧ w = w' :=
  (right_c n w).mono fun e w' ⟨he, hw⟩ => ⟨by rw [he, decide_eq_true h], hw⟩
/-- may a key have so many bytes? -/
def Aes.okKey (n : Nat) : Prop := n = 16 ∨ n = 24 ∨ n = 32
set_option maxHeartbeats 1000000 in
theorem new_c (bk : Nat → BitVec 8) (U : List (BitVec 32) → List (BitVec 32)) (s : ByteArray) (w : World) (h : Aes.okKey s.size) :
    Calls Tryd.prog 44 #[.string s] w fun e w' => ∃ b, e = .returned (.tuple #[.pointer (some ⟨b, 0, none⟩), .int .i64 0]) ∧ w.heap.size ≤ b ∧ CiphAt bk U w' b (Aes.words (byt s)) ∧ Below w.heap.size w w' := by
  obtain ⟨n, hn, h4, h8⟩ : ∃ n, s.size = 4 * n ∧ 4 ≤ n ∧ n ≤ 8 := by
    rcases h with h | h | h
    · exact ⟨4, by omega, by omega, by omega⟩
    · exact ⟨6, by omega, by omega, by omega⟩
    · exact ⟨8, by omega, by omega, by omega⟩
  have H : Hid _ := h
  have HN : Hid _ := hn
  clear h hn
  go_enter Tryd.func44, Tryd.ntmps44
  go_wp2_with (first | (go_at_call 59; refine (right_yes _ _ (by have := H.out; unfold Aes.okKey at this; omega)).mono ?_; rintro e w' ⟨rfl, rfl⟩) | (go_at_call 60; refine (box_c _).mono ?_; rintro e w1 ⟨rfl, hb1⟩) | (with_reducible show wpList _ _ _ (Oper.mk _ (Op.build _ _) _ _ _ _ :: _) _ _; refine wpList_build rfl 112 0 (.tmp 9) rfl (.agg (arr 256 fun j => U8 (Aes.sb j))) (.agg (arr 517 (ciph0 fun j => U8 (Aes.sb j)))) rfl (build_cipher fun j => U8 (Aes.sb j)) ?_) | fail)
  have hr1 := Row.of_arr w1 112 517 (ciph0 fun j => U8 (Aes.sb j))
  refine (expand_c w1.heap.size 0 n s _ HN.out h4 h8 (fun i hi => by rw [Nat.zero_add, hr1.cell (by omega)]; simp only [ciph0, if_pos hi]) (by simp)).mono ?_
  rintro e w2 ⟨rfl, hr2, hb2⟩
  rw [World.size_alloc] at hr2
  have hr1' := hr1.below hb2 (by simp)
  have c1 := hr1'.cell (i := 256) (by omega)
  have z1 := hr1'.frozen (i := 256) (by omega)
  have R1 := Lib.hid hr1'
  have R2 := Lib.hid hr2
  clear hr1 hr1' hr2
  go_wp2
  go_ret2
  refine ⟨_, rfl, hb1.size, ⟨w1.heap.size + 1, none, (R1.out.set_ _ _).congr (fun i hi => ?_), R2.out.other (by simp) _, fun u hu => by cases hu⟩, ?_⟩
  · by_cases e : i = 256
    · subst e; rfl
    · rw [if_neg e]
      simp only [ciph0, ciph, if_neg e, Option.isSome_none, Bool.false_eq_true, if_false]
  · exact ((hb1.alloc hb1.size _).trans (hb2.mono (by simp; have := hb1.size; omega))).setCell hb1.size _
end Go.Proofs.YtepogbfkmflooaaDoor
