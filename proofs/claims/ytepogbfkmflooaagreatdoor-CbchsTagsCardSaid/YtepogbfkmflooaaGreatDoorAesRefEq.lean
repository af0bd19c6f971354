/-
  AES: the reference's cipher is the program's. No program in sight. Conditions as each says. AES: sync.Once about the making ready, in one goroutine. Conditions as each says.
-/
import Derived.Test.YtepogbfkmflooaaGreatDoorAesRefA
import Derived.Test.YtepogbfkmflooaaGreatDoorAesRefN
import Derived.Test.YtepogbfkmflooaaGreatDoorAesMix
import Derived.Test.YtepogbfkmflooaaGreatDoorAesPlain
import Derived.Test.YtepogbfkmflooaaGreatDoorAesNew
import Derived.Defers
import Derived.Laws.LoneSync
import Derived.RegionCalls
import Derived.Laws.NewBlocks
namespace Go.Proofs.YtepogbfkmflooaaGreatDoor
namespace Aes
theorem c1_all : ∀ n, n < 256 → mul 1#8 (BitVec.ofNat 8 n) = BitVec.ofNat 8 n := by decide +kernel
theorem c2_all : ∀ n, n < 256 → mul 2#8 (BitVec.ofNat 8 n) = xt (BitVec.ofNat 8 n) := by decide +kernel
theorem c3_all : ∀ n, n < 256 → mul 3#8 (BitVec.ofNat 8 n) = xt (BitVec.ofNat 8 n) ^^^ BitVec.ofNat 8 n := by decide +kernel
theorem c0_all : ∀ n, n < 256 → mul 0#8 (BitVec.ofNat 8 n) = 0#8 := by decide +kernel
theorem k1 (x : BitVec 8) : mul 1#8 x = x := by
  have := c1_all _ x.isLt
  rwa [BitVec.ofNat_toNat, BitVec.setWidth_eq] at this
theorem k2 (x : BitVec 8) : mul 2#8 x = xt x := by
  have := c2_all _ x.isLt
  rwa [BitVec.ofNat_toNat, BitVec.setWidth_eq] at this
theorem k3 (x : BitVec 8) : mul 3#8 x = xt x ^^^ x := by
  have := c3_all _ x.isLt
  rwa [BitVec.ofNat_toNat, BitVec.setWidth_eq] at this
theorem k0 (x : BitVec 8) : mul 0#8 x = 0#8 := by
  have := c0_all _ x.isLt
  rwa [BitVec.ofNat_toNat, BitVec.setWidth_eq] at this
theorem mul_left' (a b x : BitVec 8) : mul (a ^^^ b) x = mul a x ^^^ mul b x := by
  rw [mul_comm (a ^^^ b) x, mul_right, mul_comm x a, mul_comm x b]
/-- the columns one by one -/
theorem rCols_eq (f y : Nat → BitVec 8) : ∀ c j, rCols f y c j = if j < 4 * c then colAcc y (j / 4) f (j % 4) 4 else y j := by
  intro c
  induction c with
  | zero => intro j; rw [if_neg (by omega)]; rfl
  | succ c ih =>
    intro j
    show column (rCols f y c) c f j = _
    have hacc : ∀ r k, k ≤ 4 → colAcc (rCols f y c) c f r k = colAcc y c f r k := by
      intro r k
      induction k with
      | zero => intro _; rfl
      | succ k ihk =>
        intro hk
        show colAcc (rCols f y c) c f r k ^^^ mul _ (rCols f y c (4 * c + k)) = colAcc y c f r k ^^^ mul _ (y (4 * c + k))
        rw [ihk (by omega), ih, if_neg (by omega)]
    unfold column
    by_cases h : 4 * c ≤ j ∧ j < 4 * c + 4
    · rw [if_pos h, if_pos (by omega), hacc _ 4 (Nat.le_refl _), show j / 4 = c from by omega, show j % 4 = j - 4 * c from by omega]
    · rw [if_neg h, ih]
      by_cases h2 : j < 4 * c
      · rw [if_pos h2, if_pos (by omega)]
      · rw [if_neg h2, if_neg (by omega)]
theorem acc4 (x : Nat → BitVec 8) (c : Nat) (f : Nat → BitVec 8) (r : Nat) : colAcc x c f r 4 =
    mul (f ((0 + 4 - r) % 4)) (x (4 * c)) ^^^ mul (f ((1 + 4 - r) % 4)) (x (4 * c + 1)) ^^^ mul (f ((2 + 4 - r) % 4)) (x (4 * c + 2)) ^^^ mul (f ((3 + 4 - r) % 4)) (x (4 * c + 3)) := by
  show (((0#8 ^^^ _) ^^^ _) ^^^ _) ^^^ _ = _
  rw [BitVec.zero_xor]
  rfl
/-- four bytes of a state as a word -/
def wd (x : Nat → BitVec 8) (c : Nat) : BitVec 32 := word (x (4 * c)) (x (4 * c + 1)) (x (4 * c + 2)) (x (4 * c + 3))
theorem byte_word (a b c d : BitVec 8) (r : Nat) (hr : r < 4) : byteOf (word a b c d) r = if r = 0 then a else if r = 1 then b else if r = 2 then c else d := by
  match r, hr with
  | 0, _ => exact byteOf0 ..
  | 1, _ => exact byteOf1 ..
  | 2, _ => exact byteOf2 ..
  | 3, _ => exact byteOf3 ..
theorem byte_wd (x : Nat → BitVec 8) (j : Nat) : byteOf (wd x (j / 4)) (j % 4) = x j := by
  unfold wd
  rw [byte_word _ _ _ _ _ (by omega)]
  have h : j % 4 = 0 ∨ j % 4 = 1 ∨ j % 4 = 2 ∨ j % 4 = 3 := by omega
  rcases h with h | h | h | h
  · rw [if_pos h]; congr 1; omega
  · rw [if_neg (by omega), if_pos h]; congr 1; omega
  · rw [if_neg (by omega), if_neg (by omega), if_pos h]; congr 1; omega
  · rw [if_neg (by omega), if_neg (by omega), if_neg (by omega)]; congr 1; omega
theorem mixed (x : Nat → BitVec 8) (c r : Nat) (hr : r < 4) : colAcc x c fm r 4 = byteOf (mix (wd x c)) r := by
  unfold wd
  rw [mix_word, byte_word _ _ _ _ _ hr, acc4]
  generalize x (4 * c) = a
  generalize x (4 * c + 1) = b
  generalize x (4 * c + 2) = d
  generalize x (4 * c + 3) = e
  match r, hr with
  | 0, _ => show mul 2#8 a ^^^ mul 3#8 b ^^^ mul 1#8 d ^^^ mul 1#8 e = _; rw [k2, k3, k1, k1, if_pos rfl, xt_xor]; ac_rfl
  | 1, _ => show mul 1#8 a ^^^ mul 2#8 b ^^^ mul 3#8 d ^^^ mul 1#8 e = xt (b ^^^ d) ^^^ d ^^^ e ^^^ a; rw [k2, k3, k1, k1, xt_xor]; ac_rfl
  | 2, _ => show mul 1#8 a ^^^ mul 1#8 b ^^^ mul 2#8 d ^^^ mul 3#8 e = xt (d ^^^ e) ^^^ e ^^^ a ^^^ b; rw [k2, k3, k1, k1, xt_xor]; ac_rfl
  | 3, _ => show mul 3#8 a ^^^ mul 1#8 b ^^^ mul 1#8 d ^^^ mul 2#8 e = xt (e ^^^ a) ^^^ a ^^^ b ^^^ d; rw [k2, k3, k1, k1, xt_xor]; ac_rfl
theorem four (p q r s x : BitVec 8) : mul p x ^^^ mul q x ^^^ mul r x ^^^ mul s x = mul (p ^^^ q ^^^ r ^^^ s) x := by rw [mul_left', mul_left', mul_left']
/-! the states, word by word -/
theorem shift_word (x : Nat → BitVec 32) (i : Nat) : shifted x i = word (byteOf (x i) 0) (byteOf (x ((i + 1) % 4)) 1) (byteOf (x ((i + 2) % 4)) 2) (byteOf (x ((i + 3) % 4)) 3) := by
  unfold shifted
  generalize x i = a
  generalize x ((i + 1) % 4) = b
  generalize x ((i + 2) % 4) = c
  generalize x ((i + 3) % 4) = d
  rw [show 4278190080#32 = word 255#8 0#8 0#8 0#8 from by decide, show 16711680#32 = word 0#8 255#8 0#8 0#8 from by decide, show 65280#32 = word 0#8 0#8 255#8 0#8 from by decide, show 255#32 = word 0#8 0#8 0#8 255#8 from by decide]
  have e : ∀ y : BitVec 32, y = word (byteOf y 0) (byteOf y 1) (byteOf y 2) (byteOf y 3) := fun y => (word_byteOf y).symm
  have ff : ∀ y : BitVec 8, y &&& 255#8 = y := fun y => by
    have : (255#8 : BitVec 8) = BitVec.allOnes 8 := by decide
    rw [this, BitVec.and_allOnes]
  conv => lhs; rw [e a, e b, e c, e d]
  rw [word_and, word_and, word_and, word_and, ff, ff, ff, ff]
  simp only [BitVec.and_zero]
  unfold word
  simp only [BitVec.setWidth_zero, BitVec.zero_shiftLeft, BitVec.or_zero, BitVec.zero_or]
theorem byte_shift (x : Nat → BitVec 32) (i r : Nat) (hi : i < 4) (hr : r < 4) : byteOf (shifted x i) r = byteOf (x ((i + r) % 4)) r := by
  rw [shift_word, byte_word _ _ _ _ _ hr]
  match r, hr with
  | 0, _ => rw [if_pos rfl, Nat.add_zero, Nat.mod_eq_of_lt hi]
  | 1, _ => rfl
  | 2, _ => rfl
  | 3, _ => rfl
theorem byte_col (s : List (BitVec 8)) (j : Nat) : byteOf (col s (j / 4)) (j % 4) = gb s j := byte_wd (gb s) j
section
variable (W : List (BitVec 32)) (R : Nat) (s : List (BitVec 8))
theorem sub_st (x : Nat → BitVec 8) (X : Nat → BitVec 32) (h : ∀ j, j < 16 → x j = byteOf (X (j / 4)) (j % 4)) (j : Nat) (hj : j < 16) : rSub x j = byteOf (subW sb (shifted X (j / 4))) (j % 4) := by
  unfold rSub
  rw [byte_sub _ _ (by omega), byte_shift _ _ _ (by omega) (by omega), h _ (by omega), show (4 * ((j / 4 + j % 4) % 4) + j % 4) / 4 = (j / 4 + j % 4) % 4 from by omega, show (4 * ((j / 4 + j % 4) % 4) + j % 4) % 4 = j % 4 from by omega]
theorem wd_of (y : Nat → BitVec 8) (Y : Nat → BitVec 32) (h : ∀ j, j < 16 → y j = byteOf (Y (j / 4)) (j % 4)) (c : Nat) (hc : c < 4) : wd y c = Y c := by
  unfold wd
  rw [h _ (by omega), h _ (by omega), h _ (by omega), h _ (by omega), show 4 * c / 4 = c from by omega, show 4 * c % 4 = 0 from by omega, show (4 * c + 1) / 4 = c from by omega, show (4 * c + 1) % 4 = 1 from by omega,
    show (4 * c + 2) / 4 = c from by omega, show (4 * c + 2) % 4 = 2 from by omega, show (4 * c + 3) / 4 = c from by omega, show (4 * c + 3) % 4 = 3 from by omega, word_byteOf]
theorem cols_fm (y : Nat → BitVec 8) (Y : Nat → BitVec 32) (h : ∀ j, j < 16 → y j = byteOf (Y (j / 4)) (j % 4)) (j : Nat) (hj : j < 16) : rCols fm y 4 j = byteOf (mix (Y (j / 4))) (j % 4) := by
  rw [rCols_eq, if_pos (by omega), mixed _ _ _ (by omega), wd_of y Y h _ (by omega)]
theorem add_st (x : Nat → BitVec 8) (X : Nat → BitVec 32) (r j : Nat) (hj : j < 16) (h : ∀ j, j < 16 → x j = byteOf (X (j / 4)) (j % 4)) : rAdd W x r j = byteOf (X (j / 4) ^^^ gw W (4 * r + j / 4)) (j % 4) := by
  unfold rAdd
  rw [h j hj, byte_xor]
theorem rEnc_st : ∀ r j, j < 16 → rEnc W R s r j = byteOf (encSt W R s r (j / 4)) (j % 4) := by
  intro r
  induction r with
  | zero =>
    intro j hj
    show rAdd W (gb s) 0 j = byteOf (col s (j / 4) ^^^ gw W (j / 4)) (j % 4)
    rw [add_st W (gb s) (col s) 0 j hj (fun j _ => (byte_col s j).symm), Nat.mul_zero, Nat.zero_add]
  | succ r ih =>
    intro j hj
    show rAdd W (if r + 1 < R then rCols fm (rSub (rEnc W R s r)) 4 else rSub (rEnc W R s r)) (r + 1) j = byteOf (encCol W R (r + 1) (encSt W R s r) (j / 4)) (j % 4)
    have hs := sub_st (rEnc W R s r) (encSt W R s r) ih
    unfold encCol
    by_cases h : r + 1 < R
    · rw [if_pos h, if_pos h]
      exact add_st W _ (fun i => mix (subW sb (shifted (encSt W R s r) i))) _ j hj (fun j hj => cols_fm _ (fun i => subW sb (shifted (encSt W R s r) i)) hs j hj)
    · rw [if_neg h, if_neg h]
      exact add_st W _ (fun i => subW sb (shifted (encSt W R s r) i)) _ j hj hs
theorem rEnc_enc (hW : W.length = 4 * (R + 1)) (hR : 1 ≤ R) : (List.range 16).map (rEnc W R s R) = enc W s := by
  rw [← enc_eq W s R hW hR]
  exact List.map_congr_left (fun j hj => rEnc_st W R s R j (List.mem_range.1 hj))
end
end Aes
end Go.Proofs.YtepogbfkmflooaaGreatDoor
namespace Go.Proofs.YtepogbfkmflooaaGreatDoor
open Go.RowKit
set_option linter.unusedSimpArgs false
set_option linter.unusedVariables false
set_option maxRecDepth 100000 in
theorem once_disable (w : World) : (callFunc 116 #[]).run Tryz.prog w = .ok (.value (.tuple #[])) w := run_call_mark0 Tryz.func116 (by kernel_rfl) (by kernel_rfl) (by kernel_rfl) .disable (by kernel_rfl) w
set_option maxRecDepth 100000 in
theorem once_enable (w : World) : (callFunc 118 #[]).run Tryz.prog w = .ok (.value (.tuple #[])) w := run_call_mark0 Tryz.func118 (by kernel_rfl) (by kernel_rfl) (by kernel_rfl) .enable (by kernel_rfl) w
set_option maxRecDepth 100000 in
theorem once_acquire (a : Addr) (w : World) : (callFunc 119 #[.pointer (some a)]).run Tryz.prog w = .ok (.value (.tuple #[])) w := run_call_marked Tryz.func119 (by kernel_rfl) (by kernel_rfl) (by kernel_rfl) .acquire (by kernel_rfl) a w
set_option maxRecDepth 100000 in
theorem once_release (a : Addr) (w : World) : (callFunc 121 #[.pointer (some a)]).run Tryz.prog w = .ok (.value (.tuple #[])) w := run_call_marked Tryz.func121 (by kernel_rfl) (by kernel_rfl) (by kernel_rfl) .releaseMerge (by kernel_rfl) a w
set_option maxRecDepth 100000 in
theorem once_store (a : Addr) (x : Value) (u : FrameMode) (w : World) (hc : w.cell? a = some x) (hz : w.frozen? a = false) :
    CallsD Tryz.prog 110 #[.pointer (some a), .bool true] u w fun e u' w' => u' = u ∧ (e = .returned (.tuple #[]) ∧ w' = w.drew.setCell a (.int .u32 1)) := by
  have hc' : w.drew.cell? a = some x := by go_simp
  have hz' : w.drew.frozen? a = false := by go_simp
  have hst := run_call_store (P := Tryz.prog) Tryz.func114 (by kernel_rfl) (by kernel_rfl) (by kernel_rfl) (by kernel_rfl) (k := .u32) (y := 1) hc' hz'
  go_enter_d Tryz.func110, Tryz.ntmps110
  go_wp2
  go_region_calls
  all_goals (go_end0; exact ⟨rfl, rfl⟩)
set_option maxRecDepth 100000 in
theorem once_unlock (a : Addr) (u : FrameMode) (w : World) (hc : w.cell? a = some (.int .i32 1)) (hz : w.frozen? a = false) :
    CallsD Tryz.prog 109 #[.pointer (some a)] u w fun e u' w' => u' = u ∧ (e = .returned (.tuple #[]) ∧ w' = w.setCell a (.int .i32 0)) := by
  have hd := once_disable
  have he := once_enable
  have hr := once_release
  have hadd := run_call_add (P := Tryz.prog) Tryz.func122 (by kernel_rfl) (by kernel_rfl) (by kernel_rfl) .i32 (by kernel_rfl) (y := -1) (s := 0) hc hz (by simp [go_sem]; rfl)
  have hcv := run_convert_to_unsafe (P := Tryz.prog) (src := 171) (dst := 156) Tryz.underlying171 Tryz.underlying156 (by kernel_rfl) hc
  go_enter_d Tryz.func109, Tryz.ntmps109
  go_wp2
  go_end0
  go_wp2
  go_end0
  exact ⟨rfl, rfl⟩
set_option maxRecDepth 100000 in
theorem once_lock (a : Addr) (w : World) (hc : w.cell? a = some (.int .i32 0)) (hz : w.frozen? a = false) :
    Calls Tryz.prog 108 #[.pointer (some a)] w fun e w' => e = .returned (.tuple #[]) ∧ w' = w.setCell a (.int .i32 1) := by
  have hd := once_disable
  have he := once_enable
  have ha := once_acquire
  have hcas := run_call_cas_hit (P := Tryz.prog) Tryz.func117 (by kernel_rfl) (by kernel_rfl) (by kernel_rfl) .i32 (by kernel_rfl) (y := 1) hc hz
  have hc' : (w.setCell a (.int .i32 1)).cell? a = some (.int .i32 1) := World.cell?_setCell_same w a _ hc
  have hcv := run_convert_to_unsafe (P := Tryz.prog) (src := 171) (dst := 156) Tryz.underlying171 Tryz.underlying156 (by kernel_rfl) hc'
  go_enter Tryz.func108, Tryz.ntmps108
  go_wp2
  first | go_end0 | (simp only [Exit.inBlock, Exit.then]; refine bodyPost_ret (results_none rfl _ _ _) rfl ?_) | refine bodyPost_ret (results_none rfl _ _ _) rfl ?_
  go_wp2
  go_end0
  exact ⟨rfl, rfl⟩
set_option maxRecDepth 100000 in
set_option maxHeartbeats 1600000 in
set_option maxRecDepth 100000 in
theorem once_slow (b : Nat) (R : World → Prop) (w : World) (h0 : w.cell? ⟨b, 257, none⟩ = some (.int .u32 0)) (h1 : w.cell? ⟨b, 258, none⟩ = some (.int .i32 0)) (f1 : w.frozen? ⟨b, 258, none⟩ = false)
    (hp : Calls Tryz.prog 82 #[.pointer (some ⟨b, 0, none⟩)] (w.setCell ⟨b, 258, none⟩ (.int .i32 1)) fun e w' => e = .returned (.tuple #[]) ∧ R w')
    (hR : ∀ w', R w' → w'.cell? ⟨b, 257, none⟩ = some (.int .u32 0) ∧ w'.cell? ⟨b, 258, none⟩ = some (.int .i32 1) ∧ w'.frozen? ⟨b, 257, none⟩ = false ∧ w'.frozen? ⟨b, 258, none⟩ = false) :
    Calls Tryz.prog 99 #[.pointer (some ⟨b, 257, none⟩), .func (.func 82) #[.pointer (some ⟨b, 0, none⟩)] #[]] w fun e w'' => e = .returned (.tuple #[]) ∧
      ∃ w', R w' ∧ w'' = (w'.drew.setCell ⟨b, 257, none⟩ (.int .u32 1)).setCell ⟨b, 258, none⟩ (.int .i32 0) := by
  have hl := run_call_load (P := Tryz.prog) Tryz.func107 (by kernel_rfl) (by kernel_rfl) (by kernel_rfl) .u32 (by kernel_rfl) (w := w.setCell ⟨b, 258, none⟩ (.int .i32 1)) (a := ⟨b, 257, none⟩) (x := 0) ((World.cell?_setCell_other _ ⟨b, 258, none⟩ ⟨b, 257, none⟩ _ (by simp)).trans h0)
  have hnot : ∀ (x : Bool) (w : World), (Op.unary .not (.bool x)).run Tryz.prog w = .ok (.bool (!x)) w := fun _ _ => rfl
  go_enter_defers Tryz.func99, Tryz.ntmps99
  go_wp2_with (first
    | (go_at_call 108; refine (once_lock ⟨b, 258, none⟩ _ h1 f1).mono ?_; rintro e w' ⟨rfl, rfl⟩)
    | (go_at_call 98; go_in)
    | (go_at_call 82; refine hp.mono ?_; rintro e w2 ⟨rfl, hw2⟩; obtain ⟨k0, k1, z0, z1⟩ := hR w2 hw2))
  go_wp2
  refine leaves_cons (f := 110) (args := #[.pointer (some ⟨b, 257, none⟩), .bool true]) (by simp) (by simp [go_sem]) ?_
  refine (once_store ⟨b, 257, none⟩ (.int .u32 0) .returning _ k0 z0).mono ?_
  rintro e u' w'' ⟨rfl, rfl, rfl⟩
  refine leaves_cons (f := 109) (args := #[.pointer (some ⟨b, 258, none⟩)]) (by simp [settle]) (by simp [go_sem]) ?_
  refine (once_unlock ⟨b, 258, none⟩ _ _ ?_ (by simp [z1])).mono ?_
  · refine (World.cell?_setCell_other _ ⟨b, 257, none⟩ ⟨b, 258, none⟩ _ (by simp)).trans ?_
    rw [World.cell?_drew]
    exact k1
  rintro e u' w'' ⟨rfl, rfl, rfl⟩
  simp [Leaves, settle, results, Tryz.results99]
  exact ⟨w2, hw2, rfl⟩
set_option maxRecDepth 100000 in
set_option maxHeartbeats 1600000 in
set_option maxRecDepth 100000 in
theorem once_first (b : Nat) (R : World → Prop) (w : World) (h0 : w.cell? ⟨b, 257, none⟩ = some (.int .u32 0)) (h1 : w.cell? ⟨b, 258, none⟩ = some (.int .i32 0)) (f1 : w.frozen? ⟨b, 258, none⟩ = false)
    (hp : Calls Tryz.prog 82 #[.pointer (some ⟨b, 0, none⟩)] (w.setCell ⟨b, 258, none⟩ (.int .i32 1)) fun e w' => e = .returned (.tuple #[]) ∧ R w')
    (hR : ∀ w', R w' → w'.cell? ⟨b, 257, none⟩ = some (.int .u32 0) ∧ w'.cell? ⟨b, 258, none⟩ = some (.int .i32 1) ∧ w'.frozen? ⟨b, 257, none⟩ = false ∧ w'.frozen? ⟨b, 258, none⟩ = false) :
    Calls Tryz.prog 81 #[.pointer (some ⟨b, 257, none⟩), .func (.func 82) #[.pointer (some ⟨b, 0, none⟩)] #[]] w fun e w'' => e = .returned (.tuple #[]) ∧
      ∃ w', R w' ∧ w'' = (w'.drew.setCell ⟨b, 257, none⟩ (.int .u32 1)).setCell ⟨b, 258, none⟩ (.int .i32 0) := by
  have hl := run_call_load (P := Tryz.prog) Tryz.func107 (by kernel_rfl) (by kernel_rfl) (by kernel_rfl) .u32 (by kernel_rfl) h0
  have hnot : ∀ (x : Bool) (w : World), (Op.unary .not (.bool x)).run Tryz.prog w = .ok (.bool (!x)) w := fun _ _ => rfl
  go_enter Tryz.func81, Tryz.ntmps81
  go_wp2_with (first
    | (go_at_call 99; refine (once_slow b R _ h0 h1 f1 hp hR).mono ?_; rintro e w' ⟨rfl, hw'⟩)
    | (go_at_call 98; go_in))
  go_end0
  exact ⟨rfl, hw'⟩
set_option maxRecDepth 100000 in
theorem once_done (b : Nat) (fv : Value) (w : World) (h0 : w.cell? ⟨b, 257, none⟩ = some (.int .u32 1)) :
    Calls Tryz.prog 81 #[.pointer (some ⟨b, 257, none⟩), fv] w fun e w' => e = .returned (.tuple #[]) ∧ w' = w := by
  have hl := run_call_load (P := Tryz.prog) Tryz.func107 (by kernel_rfl) (by kernel_rfl) (by kernel_rfl) .u32 (by kernel_rfl) h0
  have hnot : ∀ (x : Bool) (w : World), (Op.unary .not (.bool x)).run Tryz.prog w = .ok (.bool (!x)) w := fun _ _ => rfl
  go_enter Tryz.func81, Tryz.ntmps81
  go_wp2
  go_end0
  exact ⟨rfl, rfl⟩
end Go.Proofs.YtepogbfkmflooaaGreatDoor
