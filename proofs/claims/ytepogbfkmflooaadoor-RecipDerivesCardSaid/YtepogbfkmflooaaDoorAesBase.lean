/-
  AES: the reference's word on a key's length. No conditions. AES: the contracts, said of lists of bytes. Conditions as each says. strings.Repeat of one byte, by the library's contract (laid by the kit's lay-shelf and lay-plain, cut to what is used). Conditions as it says. Digests: of texts; the example. Conditions as each says. Digests with a key, plainly. No conditions.
-/
import Derived.Test.YtepogbfkmflooaaDoorAesNew
import Derived.Test.YtepogbfkmflooaaDoorAesBackPlain
import Derived.Test.YtepogbfkmflooaaDoorAesEnc
import Derived.Test.YtepogbfkmflooaaDoorAesDec
import Derived.Test.YtepogbfkmflooaaDoorGenOwn
import Derived.Shelf.Strings.Repeat
import Derived.Test.YtepogbfkmflooaaDoorRows
import Derived.Test.YtepogbfkmflooaaDoorMem
import Derived.ProofKit
import Derived.Test.YtepogbfkmflooaaDoorShaUse
import Derived.Test.YtepogbfkmflooaaDoorGenSh
namespace Go.Proofs.YtepogbfkmflooaaDoor
open Go.RowKit
set_option linter.unusedSimpArgs false
set_option linter.unusedVariables false
end Go.Proofs.YtepogbfkmflooaaDoor
namespace Go.Proofs.YtepogbfkmflooaaDoor
open Go.RowKit
set_option linter.unusedSimpArgs false
set_option linter.unusedVariables false
theorem new_l (key : List (BitVec 8)) (w : World) (hk : Aes.okKey key.length) :
    Calls Tryd.prog 44 #[.string (str key)] w fun e w' => ∃ b, e = .returned (.tuple #[.pointer (some ⟨b, 0, none⟩), .int .i64 0]) ∧ w.heap.size ≤ b ∧ CiphAt Aes.bk Aes.undo w' b (Aes.words key) ∧ Below w.heap.size w w' := by
  have h := new_c Aes.bk Aes.undo (str key) w (by rw [size_str]; exact hk)
  rw [byt_str] at h
  exact h
theorem enc_l (b : Nat) (key s : List (BitVec 8)) (w : World) (hk : Aes.okKey key.length) (h : CiphAt Aes.bk Aes.undo w b (Aes.words key)) (hs : s.length = 16) :
    Calls Tryd.prog 46 #[.pointer (some ⟨b, 0, none⟩), .string (str s)] w fun e w' => e = .returned (.tuple #[.string (str (Aes.enc (Aes.words key) s)), .int .i64 0]) ∧ Below w.heap.size w w' := by
  have h := encrypt_c Aes.bk Aes.undo b key (str s) w hk h (by rw [size_str]; exact hs)
  rw [byt_str] at h
  exact h
theorem dec_g (b : Nat) (key s : List (BitVec 8)) (w : World) (hk : Aes.okKey key.length) (h : CiphAt Aes.bk Aes.undo w b (Aes.words key)) (hs : s.length = 16) :
    Calls Tryd.prog 52 #[.pointer (some ⟨b, 0, none⟩), .string (str s)] w fun e w' => e = .returned (.tuple #[.string (str (Aes.dec (Aes.words key) s)), .int .i64 0]) ∧ w.grownBy w' (some b) ∧ CiphAt Aes.bk Aes.undo w' b (Aes.words key) := by
  have h := decrypt_g b key (str s) w hk h (by rw [size_str]; exact hs)
  rw [byt_str] at h
  exact h
/-- a row of other cells lies apart from a cipher -/
theorem CiphAt.ne_row {w : World} {b g t n : Nat} {F : Nat → Value} {W : List (BitVec 32)} (h : CiphAt Aes.bk Aes.undo w b W) (r : Row w g t n F) (h1 : t ≠ 112) : g ≠ b := by
  obtain ⟨_, _, r1, _⟩ := h
  exact r.ne_ r1 h1
theorem CiphAt.onward {w : World} {b g t n : Nat} {F : Nat → Value} {W : List (BitVec 32)} (h : CiphAt Aes.bk Aes.undo w b W) (r : Row w g t n F) (h1 : t ≠ 112) (h2 : t ≠ 102) :
    ∀ w', w.grownBy w' (some g) → CiphAt Aes.bk Aes.undo w' b W := by
  obtain ⟨x, D, r1, r2, r3⟩ := h
  intro w' hg
  refine ⟨x, D, r1.stepG hg (fun e => r.ne_ r1 h1 e.symm), r2.stepG hg (fun e => r.ne_ r2 h2 e.symm), fun u hu => ?_⟩
  obtain ⟨h4, h5⟩ := r3 u hu
  exact ⟨h4, h5.stepG hg (fun e => r.ne_ h5 h2 e.symm)⟩
/-- a growing slice's row lies apart from a cipher -/
theorem CiphAt.ne_own {w : World} {b base e size k : Nat} {v : Value} {F : Nat → Value} {W : List (BitVec 32)} (h : CiphAt Aes.bk Aes.undo w b W) (o : Own w base e size v k F) (h1 : e ≠ 112) : v.ownBlock ≠ some b := by
  rcases o with ⟨rfl, _⟩ | ⟨g, cap, G, rfl, _, _, _, r, _⟩
  · exact fun x => by cases x
  · intro x
    have x' : some g = some b := x
    injection x' with x'
    exact h.ne_row r h1 x'
theorem CiphAt.onwardO {w : World} {b base e size k : Nat} {v : Value} {F : Nat → Value} {W : List (BitVec 32)} (h : CiphAt Aes.bk Aes.undo w b W) (o : Own w base e size v k F) (h1 : e ≠ 112) (h2 : e ≠ 102) :
    ∀ w', w.grownBy w' v.ownBlock → CiphAt Aes.bk Aes.undo w' b W := by
  rcases o with ⟨rfl, _⟩ | ⟨g, cap, G, rfl, _, _, _, r, _⟩
  · intro w' hg
    obtain ⟨x, D, r1, r2, r3⟩ := h
    have hn : ∀ z, (Value.slice none 0 0).ownBlock ≠ some z := fun z e => by cases e
    refine ⟨x, D, r1.stepO hg (hn _), r2.stepO hg (hn _), fun u hu => ?_⟩
    obtain ⟨h4, h5⟩ := r3 u hu
    exact ⟨h4, h5.stepO hg (hn _)⟩
  · exact h.onward r h1 h2
/-! the reference -/
end Go.Proofs.YtepogbfkmflooaaDoor
namespace Go.Proofs.YtepogbfkmflooaaDoor
open Go.Shelf Go.RowKit
end Go.Proofs.YtepogbfkmflooaaDoor
namespace Go.Proofs.YtepogbfkmflooaaDoor
open Go.RowKit
set_option linter.unusedSimpArgs false
set_option linter.unusedVariables false
set_option maxRecDepth 100000
set_option maxHeartbeats 1000000
namespace ShaWT
theorem mixed : Tryd.prog.follows .mixedOrders = true := by kernel_rfl
end ShaWT
theorem shaText_l (kind : Nat) (hkd : Sha.Known kind) (s : List (BitVec 8)) (hs : s.length ≤ 140737488351232) (w0 : World) (hT : Sha.Tabs w0) : Calls Tryd.prog 47 #[.int .i64 ((kind : Nat) : Int), .string (str s)] w0 fun e w' => e = .returned (.tuple #[.string (str (Sha.sum kind s)), .int .i64 0]) ∧ Below w0.heap.size w0 w' := by
 have hT0 := hT.lt
 refine enter (n := 23) Tryd.func47 rfl rfl rfl ?_
 have hk : Below w0.heap.size w0 w0 := Below.refl _ _
 refine sr (w_as (evc (.string (str ([] : List (BitVec 8))))) (w_as Ev.c (nt (sr (w_mv ei (w_call (Tryd.func48) kr rfl (m1 ei) (new_at kind w0 hkd) ?_))))))
 rintro _ w1 ⟨p, rfl, hge_p, ha, hb_p⟩
 refine ⟨_, rfl, ?_⟩
 have ge_p : w0.heap.size ≤ p := by have := hk.size; omega
 replace hk := thenB hk hb_p
 replace hT := Sha.Tabs.below hT hb_p
 refine w_mv (ex (.tuple #[pt p 0, .int .i64 0])) (w_val ye (w_val ye (w_as (ex (pt p 0)) (w_as ei (nt (wp_seq (sr (w_mv ei (w_val (y_bin ei Ev.c b_neq) (nt (c_ff eb (wp_skip (then_n (sr (w_mv (ex (pt p 0)) (w_mv es ?_))))))))))))))))
 have hw_ := ha
 clear ha
 refine w_call (Tryd.func49) kr rfl (m2 (ex (pt p 0)) es) (write_l kind ([]) s w1 p om hkd om hw_ hT) ?_
 rintro _ w2 ⟨rfl, ha, hgw⟩
 refine ⟨_, rfl, ?_⟩
 replace hk := thenG hk hgw om
 replace hT := Sha.Tabs.grown hT hgw om om
 refine nt (sr (w_mv (ex (pt p 0)) (w_call (Tryd.func51) kr rfl (m1 (ex (pt p 0))) (sum_l kind (([]) ++ s) w2 p om hkd (by (try simp only [List.nil_append, List.length_append, List.length_nil, Sha.length_sum]); omega) ha hT) ?_)))
 rintro _ w3 ⟨rfl, hb4⟩
 refine ⟨_, rfl, ?_⟩
 replace hk := thenB hk hb4
 replace hT := Sha.Tabs.below hT hb4
 replace ha := Sha.At.below ha hb4
 refine w_val ye (w_val ye (w_as es (w_as ei (nt (wp_ret (fin_ret2 rfl es ei ?_))))))
 refine ⟨congrArg Ending.returned ?_, hk⟩
 show (.tuple #[.string (str (Sha.sum kind (([]) ++ s))), .int .i64 0] : Value) = .tuple #[.string (str (Sha.sum kind s)), .int .i64 0]
 simp only [List.nil_append]

end Go.Proofs.YtepogbfkmflooaaDoor
namespace Go.Proofs.YtepogbfkmflooaaDoor
open Go.RowKit
set_option linter.unusedSimpArgs false
set_option linter.unusedVariables false
namespace Hm
/-- the key, no longer than a block -/
def kk (kind : Nat) (key : List (BitVec 8)) : List (BitVec 8) := if Sha.bs kind < key.length then Sha.sum kind key else key
def pd (kind : Nat) (key : List (BitVec 8)) (c : BitVec 8) : List (BitVec 8) := (List.range (Sha.bs kind)).map fun i => gb (kk kind key) i ^^^ c
def mac (kind : Nat) (key text : List (BitVec 8)) : List (BitVec 8) := Sha.sum kind (pd kind key 92#8 ++ Sha.sum kind (pd kind key 54#8 ++ text))
theorem kk_len (kind : Nat) (key : List (BitVec 8)) : (kk kind key).length ≤ Sha.bs kind := by
  unfold kk
  split
  · rw [Sha.length_sum]; exact Sha.ol_bs kind
  · omega
theorem pd_len (kind : Nat) (key : List (BitVec 8)) (c : BitVec 8) : (pd kind key c).length = Sha.bs kind := by simp [pd]
theorem gb_pd (kind : Nat) (key : List (BitVec 8)) (c : BitVec 8) (i : Nat) (h : i < Sha.bs kind) : gb (pd kind key c) i = gb (kk kind key) i ^^^ c := gb_map _ _ _ h
theorem mac_len (kind : Nat) (key text : List (BitVec 8)) : (mac kind key text).length = Sha.ol kind := Sha.length_sum _ _
end Hm
end Go.Proofs.YtepogbfkmflooaaDoor
