/-
  The last step of a law's row, where the law's call has made blocks of its own. No conditions. AES: the cipher that the program makes of a key. No conditions. Steps of a walk, part 6: a slice of some elements. No conditions. AES: the reference's tables, plainly. No conditions. AES: sync.Once about the making ready, in one goroutine. Conditions as each says. AES: the reference's word on a key's length. No conditions.
-/
import Derived.Test.YtepogbfkmflooaaGreatDoorWords
import Derived.Test.YtepogbfkmflooaaGreatDoorRows
import Derived.WalkKit
import Derived.ProofKit
import Derived.OpenShut
import Derived.ShutString
import Derived.SizedLaws
import Derived.Below
import Derived.ChangeSame
import Derived.Test.YtepogbfkmflooaaGreatDoorAesBox
import Derived.Test.YtepogbfkmflooaaGreatDoorAesExpand
import Derived.Test.YtepogbfkmflooaaGreatDoorGenMore
import Derived.Test.YtepogbfkmflooaaGreatDoorAesBackPlain
import Derived.Defers
import Derived.Laws.LoneSync
import Derived.RegionCalls
import Derived.Laws.NewBlocks
namespace Go.Proofs.YtepogbfkmflooaaGreatDoor
open Go.RowKit Go.WideShapes Go.ChangeShapes
section
variable {H : Type} {enc : TypeId × Value → H} {P : Program}
theorem post_of_below {f : Func} {s : ChangeSpec} {apart fresh handsOn again : Bool} {W W' : World} {args : Array Value} {v : Value} {ds gs : List (DataW H)} {before pa pv : List MemPlace}
    (hW : DataW.Whole enc P f.params.toList s.vars apart W args.toList ds gs before)
    (hres : ∀ (b : Nat) (sp : Nat → Bool) (hd : Bool), DataW.TrodAll enc P W' b sp hd f.resultTypes.toList (v.resultList f.resultTypes.size) (s.fn H (ds ++ gs)).results [])
    (hargs : ∀ sp : Nat → Bool, (∀ p ∈ before, sp p.block = true) → DataW.TrodAll enc P W' 0 sp true f.params.toList args.toList (s.fn H (ds ++ gs)).args pa)
    (hvars : ∀ sp : Nat → Bool, (∀ p ∈ before, sp p.block = true) → DataW.TrodVars enc P W' sp s.vars (s.fn H (ds ++ gs)).vars pv)
    (hps : before = pa ++ pv) (hb : Below W.heap.size W W')
    (hok : ∀ (j : Nat) (t : TypeId) (r : Value), f.resultTypes[j]? = some t → (v.resultList f.resultTypes.size)[j]? = some r → Value.okWide P W' .any 0 t r) :
    s.post enc P f apart fresh handsOn again W args v W' := by
  have hlt : ∀ p ∈ before, p.block < W.heap.size := fun p hp => hW.lt p hp
  have hold : ∀ p ∈ before, (fun b => decide (b < W.heap.size)) p.block = true := fun p hp => by simpa using hlt p hp
  refine ⟨ds, gs, before, [], pa, pv, hW, hres _ _ _, hargs _ hold, hvars _ hold, World.keptBut_mono (fun p hp => ⟨hp, ?_⟩) (hb.frame (· ∈ before)), fun _ => ?_⟩
  · rw [hps, List.mem_append] at hp
    exact Or.inr hp
  · obtain ⟨_, _, _, _, _, hz, hn⟩ := hW
    refine ⟨hok, _, _, ([] ++ pa) ++ pv, ⟨[] ++ pa, pv, trodAll_append (hargs _ (fun _ _ => rfl)) (hres _ _ _), hvars _ (fun _ _ => rfl), rfl, ?_, ?_⟩, ?_⟩
    · intro b off hp
      have hin : MemPlace.cell b off ∈ before := by rw [hps]; simpa using hp
      rw [hb.frozen (hlt _ hin)]
      exact hz b off hin
    · intro ha
      have := hn ha
      rw [hps] at this
      simpa using this
    · intro p hp _
      rw [hps]
      simpa using hp
end
theorem own : ownKnob Tryz.prog.godebug = none := by kernel_rfl
end Go.Proofs.YtepogbfkmflooaaGreatDoor
namespace Go.Proofs.YtepogbfkmflooaaGreatDoor
open Go.RowKit
set_option linter.unusedSimpArgs false
set_option linter.unusedVariables false
/-- what the cells of a cipher hold; D: the block of the words for the way back, once they are made -/
def ciph (bk : Nat → BitVec 8) (L g : Nat) (D : Option Nat) : Nat → Value := fun i =>
  if i < 256 then U8 (Aes.sb i) else if i = 256 then .slice (some ⟨g, 0, none⟩) L L else if i = 257 then .int .u32 (if D.isSome then 1 else 0)
  else if i = 258 then .int .i32 0 else if i = 259 then .int .u32 0 else if i < 516 then (if D.isSome then U8 (bk (i - 260)) else .int .u8 0)
  else match D with
    | none => .slice none 0 0
    | some u => .slice (some ⟨u, 0, none⟩) L L
/-- as it is before its words are laid in -/
def ciph0 (f : Nat → Value) : Nat → Value := fun i =>
  if i < 256 then f i else if i = 256 then .slice none 0 0 else if i = 257 then .int .u32 0 else if i = 258 then .int .i32 0 else if i = 259 then .int .u32 0
  else if i < 516 then .int .u8 0 else .slice none 0 0
/-- a cipher lies at block b -/
def CiphAt (bk : Nat → BitVec 8) (U : List (BitVec 32) → List (BitVec 32)) (w : World) (b : Nat) (W : List (BitVec 32)) : Prop :=
  ∃ (g : Nat) (D : Option Nat), Row w b 115 517 (ciph bk W.length g D) ∧ Row w g 105 W.length (fun j => U32 (Aes.gw W j)) ∧
    ∀ u, D = some u → u ≠ g ∧ Row w u 105 W.length (fun j => U32 (Aes.gw (U W) j))
theorem CiphAt.below {bk U} {w w' : World} {b : Nat} {W} (h : CiphAt bk U w b W) (hb : Below w.heap.size w w') : CiphAt bk U w' b W := by
  obtain ⟨g, D, h1, h2, h3⟩ := h
  exact ⟨g, D, h1.below hb h1.lt, h2.below hb h2.lt, fun u hu => ⟨(h3 u hu).1, (h3 u hu).2.below hb (h3 u hu).2.lt⟩⟩
theorem CiphAt.lt {bk U} {w : World} {b : Nat} {W} (h : CiphAt bk U w b W) : b < w.heap.size := by
  obtain ⟨g, D, h1, h2, h3⟩ := h
  exact h1.lt
theorem build_cipher (f : Nat → Value) (w : World) : (Instr.build 115 #[(0, .agg (arr 256 f))]).run Tryz.prog w = .ok (.agg (arr 517 (ciph0 f))) w := by kernel_rfl
theorem right_yes (n : Int) (w : World) (h : n = 16 ∨ n = 24 ∨ n = 32) : Calls Tryz.prog 67 #[.int .i64 n] w fun e w' => e = .returned (.bool true) ∧ w = w' :=
  (right_c n w).mono fun e w' ⟨he, hw⟩ => ⟨by rw [he, decide_eq_true h], hw⟩
/-- may a key have so many bytes? -/
def Aes.okKey (n : Nat) : Prop := n = 16 ∨ n = 24 ∨ n = 32
set_option maxHeartbeats 1000000 in
theorem new_c (bk : Nat → BitVec 8) (U : List (BitVec 32) → List (BitVec 32)) (s : ByteArray) (w : World) (h : Aes.okKey s.size) :
    Calls Tryz.prog 52 #[.string s] w fun e w' => ∃ b, e = .returned (.tuple #[.pointer (some ⟨b, 0, none⟩), .int .i64 0]) ∧ w.heap.size ≤ b ∧ CiphAt bk U w' b (Aes.words (byt s)) ∧ Below w.heap.size w w' := by
  obtain ⟨n, hn, h4, h8⟩ : ∃ n, s.size = 4 * n ∧ 4 ≤ n ∧ n ≤ 8 := by
    rcases h with h | h | h
    · exact ⟨4, by omega, by omega, by omega⟩
    · exact ⟨6, by omega, by omega, by omega⟩
    · exact ⟨8, by omega, by omega, by omega⟩
  have H : Hid _ := h
  have HN : Hid _ := hn
  clear h hn
  go_enter Tryz.func52, Tryz.ntmps52
  go_wp2_with (first | (go_at_call 67; refine (right_yes _ _ (by have := H.out; unfold Aes.okKey at this; omega)).mono ?_; rintro e w' ⟨rfl, rfl⟩) | (go_at_call 68; refine (box_c _).mono ?_; rintro e w1 ⟨rfl, hb1⟩) | (with_reducible show wpList _ _ _ (Oper.mk _ (Op.build _ _) _ _ _ _ :: _) _ _; refine wpList_build rfl 115 0 (.tmp 9) rfl (.agg (arr 256 fun j => U8 (Aes.sb j))) (.agg (arr 517 (ciph0 fun j => U8 (Aes.sb j)))) rfl (build_cipher fun j => U8 (Aes.sb j)) ?_) | fail)
  have hr1 := Row.of_arr w1 115 517 (ciph0 fun j => U8 (Aes.sb j))
  refine (expand_c w1.heap.size 0 n s _ HN.out h4 h8 (fun i hi => by rw [Nat.zero_add, hr1.cell (by omega)]; simp only [ciph0, if_pos hi]) (by simp)).mono ?_
  rintro e w2 ⟨rfl, hr2, hb2⟩
  rw [World.size_alloc] at hr2
  have hr1' := hr1.below hb2 (by simp)
  have c1 := hr1'.cell (i := 256) (by omega)
  have z1 := hr1'.frozen (i := 256) (by omega)
  have R1 := Lib.hid hr1'
  have R2 := Lib.hid hr2
  clear hr1 hr1' hr2
  go_wp2
  go_ret2
  refine ⟨_, rfl, hb1.size, ⟨w1.heap.size + 1, none, (R1.out.set_ _ _).congr (fun i hi => ?_), R2.out.other (by simp) _, fun u hu => by cases hu⟩, ?_⟩
  · by_cases e : i = 256
    · subst e; rfl
    · rw [if_neg e]
      simp only [ciph0, ciph, if_neg e, Option.isSome_none, Bool.false_eq_true, if_false]
  · exact ((hb1.alloc hb1.size _).trans (hb2.mono (by simp; have := hb1.size; omega))).setCell hb1.size _
end Go.Proofs.YtepogbfkmflooaaGreatDoor
namespace Go.Proofs.YtepogbfkmflooaaGreatDoor
open Go.RowKit
set_option linter.unusedSimpArgs false
set_option linter.unusedVariables false
section
variable {P : Program} {ops : Array Oper} {Q : Exit → Act → World → Prop} {w w' : World} {rest : List Oper} {n : Nat} {f : Nat → Value}
variable {ty : TypeId} {x y z : Operand} {v vx vy vz : Value} {t e : TypeId} {F G : Nat → Value}
end
end Go.Proofs.YtepogbfkmflooaaGreatDoor
namespace Go.Proofs.YtepogbfkmflooaaGreatDoor
namespace Aes
theorem mul3_all : ∀ n, n < 256 → mul (BitVec.ofNat 8 n) 3#8 = BitVec.ofNat 8 n ^^^ xt (BitVec.ofNat 8 n) := by decide +kernel
theorem pk_mul (k : Nat) : mul (pk k) 3#8 = pk (k + 1) := by
  have := mul3_all _ (pk k).isLt
  rw [BitVec.ofNat_toNat, BitVec.setWidth_eq] at this
  exact this
/-- the reference's box while it fills -/
def pst : Nat → List (BitVec 8)
  | 0 => (List.replicate 256 0#8).set 0 99#8
  | k + 1 => (pst k).set (pk k).toNat ((rr (pk ((255 - k) % 255)) 4).2 ^^^ 99#8)
theorem length_pst (k : Nat) : (pst k).length = 256 := by
  induction k with
  | zero => exact (List.length_set ..).trans List.length_replicate
  | succ k ih => exact (List.length_set ..).trans ih
theorem pst_sb : pst 255 = (List.range 256).map sb := by decide +kernel
theorem gb_pst (i : Nat) (h : i < 256) : gb (pst 255) i = sb i := by
  rw [pst_sb]; simp [gb, h]
theorem byte_xor (x y : BitVec 32) (r : Nat) : byteOf (x ^^^ y) r = byteOf x r ^^^ byteOf y r := by
  unfold byteOf
  rw [BitVec.ushiftRight_xor_distrib, BitVec.setWidth_xor]
end Aes
end Go.Proofs.YtepogbfkmflooaaGreatDoor
namespace Go.Proofs.YtepogbfkmflooaaGreatDoor
open Go.RowKit
set_option linter.unusedSimpArgs false
set_option linter.unusedVariables false
set_option maxRecDepth 100000 in
theorem once_disable (w : World) : (callFunc 116 #[]).run Tryz.prog w = .ok (.value (.tuple #[])) w := run_call_mark0 Tryz.func116 (by kernel_rfl) (by kernel_rfl) (by kernel_rfl) .disable (by kernel_rfl) w
set_option maxRecDepth 100000 in
theorem once_enable (w : World) : (callFunc 118 #[]).run Tryz.prog w = .ok (.value (.tuple #[])) w := run_call_mark0 Tryz.func118 (by kernel_rfl) (by kernel_rfl) (by kernel_rfl) .enable (by kernel_rfl) w
set_option maxRecDepth 100000 in
theorem once_acquire (a : Addr) (w : World) : (callFunc 119 #[.pointer (some a)]).run Tryz.prog w = .ok (.value (.tuple #[])) w := run_call_marked Tryz.func119 (by kernel_rfl) (by kernel_rfl) (by kernel_rfl) .acquire (by kernel_rfl) a w
set_option maxRecDepth 100000 in
theorem once_release (a : Addr) (w : World) : (callFunc 121 #[.pointer (some a)]).run Tryz.prog w = .ok (.value (.tuple #[])) w := run_call_marked Tryz.func121 (by kernel_rfl) (by kernel_rfl) (by kernel_rfl) .releaseMerge (by kernel_rfl) a w
set_option maxRecDepth 100000 in
theorem once_store (a : Addr) (x : Value) (u : FrameMode) (w : World) (hc : w.cell? a = some x) (hz : w.frozen? a = false) :
    CallsD Tryz.prog 110 #[.pointer (some a), .bool true] u w fun e u' w' => u' = u ∧ (e = .returned (.tuple #[]) ∧ w' = w.drew.setCell a (.int .u32 1)) := by
  have hc' : w.drew.cell? a = some x := by go_simp
  have hz' : w.drew.frozen? a = false := by go_simp
  have hst := run_call_store (P := Tryz.prog) Tryz.func114 (by kernel_rfl) (by kernel_rfl) (by kernel_rfl) (by kernel_rfl) (k := .u32) (y := 1) hc' hz'
  go_enter_d Tryz.func110, Tryz.ntmps110
  go_wp2
  go_region_calls
  all_goals (go_end0; exact ⟨rfl, rfl⟩)
set_option maxRecDepth 100000 in
theorem once_unlock (a : Addr) (u : FrameMode) (w : World) (hc : w.cell? a = some (.int .i32 1)) (hz : w.frozen? a = false) :
    CallsD Tryz.prog 109 #[.pointer (some a)] u w fun e u' w' => u' = u ∧ (e = .returned (.tuple #[]) ∧ w' = w.setCell a (.int .i32 0)) := by
  have hd := once_disable
  have he := once_enable
  have hr := once_release
  have hadd := run_call_add (P := Tryz.prog) Tryz.func122 (by kernel_rfl) (by kernel_rfl) (by kernel_rfl) .i32 (by kernel_rfl) (y := -1) (s := 0) hc hz (by simp [go_sem]; rfl)
  have hcv := run_convert_to_unsafe (P := Tryz.prog) (src := 171) (dst := 156) Tryz.underlying171 Tryz.underlying156 (by kernel_rfl) hc
  go_enter_d Tryz.func109, Tryz.ntmps109
  go_wp2
  go_end0
  go_wp2
  go_end0
  exact ⟨rfl, rfl⟩
set_option maxRecDepth 100000 in
theorem once_lock (a : Addr) (w : World) (hc : w.cell? a = some (.int .i32 0)) (hz : w.frozen? a = false) :
    Calls Tryz.prog 108 #[.pointer (some a)] w fun e w' => e = .returned (.tuple #[]) ∧ w' = w.setCell a (.int .i32 1) := by
  have hd := once_disable
  have he := once_enable
  have ha := once_acquire
  have hcas := run_call_cas_hit (P := Tryz.prog) Tryz.func117 (by kernel_rfl) (by kernel_rfl) (by kernel_rfl) .i32 (by kernel_rfl) (y := 1) hc hz
  have hc' : (w.setCell a (.int .i32 1)).cell? a = some (.int .i32 1) := World.cell?_setCell_same w a _ hc
  have hcv := run_convert_to_unsafe (P := Tryz.prog) (src := 171) (dst := 156) Tryz.underlying171 Tryz.underlying156 (by kernel_rfl) hc'
  go_enter Tryz.func108, Tryz.ntmps108
  go_wp2
  first | go_end0 | (simp only [Exit.inBlock, Exit.then]; refine bodyPost_ret (results_none rfl _ _ _) rfl ?_) | refine bodyPost_ret (results_none rfl _ _ _) rfl ?_
  go_wp2
  go_end0
  exact ⟨rfl, rfl⟩
set_option maxRecDepth 100000 in
set_option maxHeartbeats 1600000 in
set_option maxRecDepth 100000 in
theorem once_slow (b : Nat) (R : World → Prop) (w : World) (h0 : w.cell? ⟨b, 257, none⟩ = some (.int .u32 0)) (h1 : w.cell? ⟨b, 258, none⟩ = some (.int .i32 0)) (f1 : w.frozen? ⟨b, 258, none⟩ = false)
    (hp : Calls Tryz.prog 82 #[.pointer (some ⟨b, 0, none⟩)] (w.setCell ⟨b, 258, none⟩ (.int .i32 1)) fun e w' => e = .returned (.tuple #[]) ∧ R w')
    (hR : ∀ w', R w' → w'.cell? ⟨b, 257, none⟩ = some (.int .u32 0) ∧ w'.cell? ⟨b, 258, none⟩ = some (.int .i32 1) ∧ w'.frozen? ⟨b, 257, none⟩ = false ∧ w'.frozen? ⟨b, 258, none⟩ = false) :
    Calls Tryz.prog 99 #[.pointer (some ⟨b, 257, none⟩), .func (.func 82) #[.pointer (some ⟨b, 0, none⟩)] #[]] w fun e w'' => e = .returned (.tuple #[]) ∧
      ∃ w', R w' ∧ w'' = (w'.drew.setCell ⟨b, 257, none⟩ (.int .u32 1)).setCell ⟨b, 258, none⟩ (.int .i32 0) := by
  have hl := run_call_load (P := Tryz.prog) Tryz.func107 (by kernel_rfl) (by kernel_rfl) (by kernel_rfl) .u32 (by kernel_rfl) (w := w.setCell ⟨b, 258, none⟩ (.int .i32 1)) (a := ⟨b, 257, none⟩) (x := 0) ((World.cell?_setCell_other _ ⟨b, 258, none⟩ ⟨b, 257, none⟩ _ (by simp)).trans h0)
  have hnot : ∀ (x : Bool) (w : World), (Op.unary .not (.bool x)).run Tryz.prog w = .ok (.bool (!x)) w := fun _ _ => rfl
  go_enter_defers Tryz.func99, Tryz.ntmps99
  go_wp2_with (first
    | (go_at_call 108; refine (once_lock ⟨b, 258, none⟩ _ h1 f1).mono ?_; rintro e w' ⟨rfl, rfl⟩)
    | (go_at_call 98; go_in)
    | (go_at_call 82; refine hp.mono ?_; rintro e w2 ⟨rfl, hw2⟩; obtain ⟨k0, k1, z0, z1⟩ := hR w2 hw2))
  go_wp2
  refine leaves_cons (f := 110) (args := #[.pointer (some ⟨b, 257, none⟩), .bool true]) (by simp) (by simp [go_sem]) ?_
  refine (once_store ⟨b, 257, none⟩ (.int .u32 0) .returning _ k0 z0).mono ?_
  rintro e u' w'' ⟨rfl, rfl, rfl⟩
  refine leaves_cons (f := 109) (args := #[.pointer (some ⟨b, 258, none⟩)]) (by simp [settle]) (by simp [go_sem]) ?_
  refine (once_unlock ⟨b, 258, none⟩ _ _ ?_ (by simp [z1])).mono ?_
  · refine (World.cell?_setCell_other _ ⟨b, 257, none⟩ ⟨b, 258, none⟩ _ (by simp)).trans ?_
    rw [World.cell?_drew]
    exact k1
  rintro e u' w'' ⟨rfl, rfl, rfl⟩
  simp [Leaves, settle, results, Tryz.results99]
  exact ⟨w2, hw2, rfl⟩
set_option maxRecDepth 100000 in
set_option maxHeartbeats 1600000 in
set_option maxRecDepth 100000 in
theorem once_first (b : Nat) (R : World → Prop) (w : World) (h0 : w.cell? ⟨b, 257, none⟩ = some (.int .u32 0)) (h1 : w.cell? ⟨b, 258, none⟩ = some (.int .i32 0)) (f1 : w.frozen? ⟨b, 258, none⟩ = false)
    (hp : Calls Tryz.prog 82 #[.pointer (some ⟨b, 0, none⟩)] (w.setCell ⟨b, 258, none⟩ (.int .i32 1)) fun e w' => e = .returned (.tuple #[]) ∧ R w')
    (hR : ∀ w', R w' → w'.cell? ⟨b, 257, none⟩ = some (.int .u32 0) ∧ w'.cell? ⟨b, 258, none⟩ = some (.int .i32 1) ∧ w'.frozen? ⟨b, 257, none⟩ = false ∧ w'.frozen? ⟨b, 258, none⟩ = false) :
    Calls Tryz.prog 81 #[.pointer (some ⟨b, 257, none⟩), .func (.func 82) #[.pointer (some ⟨b, 0, none⟩)] #[]] w fun e w'' => e = .returned (.tuple #[]) ∧
      ∃ w', R w' ∧ w'' = (w'.drew.setCell ⟨b, 257, none⟩ (.int .u32 1)).setCell ⟨b, 258, none⟩ (.int .i32 0) := by
  have hl := run_call_load (P := Tryz.prog) Tryz.func107 (by kernel_rfl) (by kernel_rfl) (by kernel_rfl) .u32 (by kernel_rfl) h0
  have hnot : ∀ (x : Bool) (w : World), (Op.unary .not (.bool x)).run Tryz.prog w = .ok (.bool (!x)) w := fun _ _ => rfl
  go_enter Tryz.func81, Tryz.ntmps81
  go_wp2_with (first
    | (go_at_call 99; refine (once_slow b R _ h0 h1 f1 hp hR).mono ?_; rintro e w' ⟨rfl, hw'⟩)
    | (go_at_call 98; go_in))
  go_end0
  exact ⟨rfl, hw'⟩
set_option maxRecDepth 100000 in
theorem once_done (b : Nat) (fv : Value) (w : World) (h0 : w.cell? ⟨b, 257, none⟩ = some (.int .u32 1)) :
    Calls Tryz.prog 81 #[.pointer (some ⟨b, 257, none⟩), fv] w fun e w' => e = .returned (.tuple #[]) ∧ w' = w := by
  have hl := run_call_load (P := Tryz.prog) Tryz.func107 (by kernel_rfl) (by kernel_rfl) (by kernel_rfl) .u32 (by kernel_rfl) h0
  have hnot : ∀ (x : Bool) (w : World), (Op.unary .not (.bool x)).run Tryz.prog w = .ok (.bool (!x)) w := fun _ _ => rfl
  go_enter Tryz.func81, Tryz.ntmps81
  go_wp2
  go_end0
  exact ⟨rfl, rfl⟩
end Go.Proofs.YtepogbfkmflooaaGreatDoor
namespace Go.Proofs.YtepogbfkmflooaaGreatDoor
open Go.RowKit
set_option linter.unusedSimpArgs false
set_option linter.unusedVariables false
theorem refRight_yes (s : ByteArray) (w : World) (h : Aes.okKey s.size) : Calls Tryz.prog 48 #[.string s] w fun e w' => e = .returned (.bool true) ∧ w = w' := by
  rcases h with h | h | h
  all_goals
    go_enter Tryz.func48, Tryz.ntmps48
    go_wp2
    go_ret
    exact ⟨rfl, rfl⟩
end Go.Proofs.YtepogbfkmflooaaGreatDoor
