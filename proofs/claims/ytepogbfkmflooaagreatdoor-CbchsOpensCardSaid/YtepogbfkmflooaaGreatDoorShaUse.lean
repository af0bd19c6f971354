/-
  AES: the contracts, said of lists of bytes. Conditions as each says. Digests: the contracts for every kind that is known. Conditions as each says.
-/
import Derived.Test.YtepogbfkmflooaaGreatDoorAesRefEq
import Derived.Test.YtepogbfkmflooaaGreatDoorAesDec
import Derived.Test.YtepogbfkmflooaaGreatDoorAesOnce
import Derived.Test.YtepogbfkmflooaaGreatDoorGenOwn
import Derived.Test.YtepogbfkmflooaaGreatDoorShaD
import Derived.Test.YtepogbfkmflooaaGreatDoorShaM
import Derived.Test.YtepogbfkmflooaaGreatDoorShaS
namespace Go.Proofs.YtepogbfkmflooaaGreatDoor
open Go.RowKit
set_option linter.unusedSimpArgs false
set_option linter.unusedVariables false
theorem new_l (key : List (BitVec 8)) (w : World) (hk : Aes.okKey key.length) :
    Calls Tryz.prog 52 #[.string (str key)] w fun e w' => ∃ b, e = .returned (.tuple #[.pointer (some ⟨b, 0, none⟩), .int .i64 0]) ∧ w.heap.size ≤ b ∧ CiphAt Aes.bk Aes.undo w' b (Aes.words key) ∧ Below w.heap.size w w' := by
  have h := new_c Aes.bk Aes.undo (str key) w (by rw [size_str]; exact hk)
  rw [byt_str] at h
  exact h
theorem right_l (key : List (BitVec 8)) (w : World) (hk : Aes.okKey key.length) : Calls Tryz.prog 48 #[.string (str key)] w fun e w' => e = .returned (.bool true) ∧ w = w' := refRight_yes _ _ (by rw [size_str]; exact hk)
theorem enc_l (b : Nat) (key s : List (BitVec 8)) (w : World) (hk : Aes.okKey key.length) (h : CiphAt Aes.bk Aes.undo w b (Aes.words key)) (hs : s.length = 16) :
    Calls Tryz.prog 54 #[.pointer (some ⟨b, 0, none⟩), .string (str s)] w fun e w' => e = .returned (.tuple #[.string (str (Aes.enc (Aes.words key) s)), .int .i64 0]) ∧ Below w.heap.size w w' := by
  have h := encrypt_c Aes.bk Aes.undo b key (str s) w hk h (by rw [size_str]; exact hs)
  rw [byt_str] at h
  exact h
theorem dec_g (b : Nat) (key s : List (BitVec 8)) (w : World) (hk : Aes.okKey key.length) (h : CiphAt Aes.bk Aes.undo w b (Aes.words key)) (hs : s.length = 16) :
    Calls Tryz.prog 62 #[.pointer (some ⟨b, 0, none⟩), .string (str s)] w fun e w' => e = .returned (.tuple #[.string (str (Aes.dec (Aes.words key) s)), .int .i64 0]) ∧ w.grownBy w' (some b) ∧ CiphAt Aes.bk Aes.undo w' b (Aes.words key) := by
  have h := decrypt_g b key (str s) w hk h (by rw [size_str]; exact hs)
  rw [byt_str] at h
  exact h
/-- a row of other cells lies apart from a cipher -/
theorem CiphAt.ne_row {w : World} {b g t n : Nat} {F : Nat → Value} {W : List (BitVec 32)} (h : CiphAt Aes.bk Aes.undo w b W) (r : Row w g t n F) (h1 : t ≠ 115) : g ≠ b := by
  obtain ⟨_, _, r1, _⟩ := h
  exact r.ne_ r1 h1
theorem CiphAt.onward {w : World} {b g t n : Nat} {F : Nat → Value} {W : List (BitVec 32)} (h : CiphAt Aes.bk Aes.undo w b W) (r : Row w g t n F) (h1 : t ≠ 115) (h2 : t ≠ 105) :
    ∀ w', w.grownBy w' (some g) → CiphAt Aes.bk Aes.undo w' b W := by
  obtain ⟨x, D, r1, r2, r3⟩ := h
  intro w' hg
  refine ⟨x, D, r1.stepG hg (fun e => r.ne_ r1 h1 e.symm), r2.stepG hg (fun e => r.ne_ r2 h2 e.symm), fun u hu => ?_⟩
  obtain ⟨h4, h5⟩ := r3 u hu
  exact ⟨h4, h5.stepG hg (fun e => r.ne_ h5 h2 e.symm)⟩
/-- a growing slice's row lies apart from a cipher -/
theorem CiphAt.ne_own {w : World} {b base e size k : Nat} {v : Value} {F : Nat → Value} {W : List (BitVec 32)} (h : CiphAt Aes.bk Aes.undo w b W) (o : Own w base e size v k F) (h1 : e ≠ 115) : v.ownBlock ≠ some b := by
  rcases o with ⟨rfl, _⟩ | ⟨g, cap, G, rfl, _, _, _, r, _⟩
  · exact fun x => by cases x
  · intro x
    have x' : some g = some b := x
    injection x' with x'
    exact h.ne_row r h1 x'
theorem CiphAt.onwardO {w : World} {b base e size k : Nat} {v : Value} {F : Nat → Value} {W : List (BitVec 32)} (h : CiphAt Aes.bk Aes.undo w b W) (o : Own w base e size v k F) (h1 : e ≠ 115) (h2 : e ≠ 105) :
    ∀ w', w.grownBy w' v.ownBlock → CiphAt Aes.bk Aes.undo w' b W := by
  rcases o with ⟨rfl, _⟩ | ⟨g, cap, G, rfl, _, _, _, r, _⟩
  · intro w' hg
    obtain ⟨x, D, r1, r2, r3⟩ := h
    have hn : ∀ z, (Value.slice none 0 0).ownBlock ≠ some z := fun z e => by cases e
    refine ⟨x, D, r1.stepO hg (hn _), r2.stepO hg (hn _), fun u hu => ?_⟩
    obtain ⟨h4, h5⟩ := r3 u hu
    exact ⟨h4, h5.stepO hg (hn _)⟩
  · exact h.onward r h1 h2
/-! the reference -/
theorem refNew_l (key : List (BitVec 8)) (w : World) (hk : Aes.okKey key.length) :
    Calls Tryz.prog 28 #[.string (str key)] w fun e w' => ∃ b g cap, e = .returned (.pointer (some ⟨b, 0, none⟩)) ∧ Below w.heap.size w w' ∧ w.heap.size ≤ b ∧ w.heap.size ≤ g ∧
      Row w' b 74 513 (fun j => if j < 256 then U8 (Aes.sb j) else if j < 512 then U8 (Aes.bk (j - 256)) else .slice (some ⟨g, 0, none⟩) (Aes.words key).length cap) ∧
      Row w' g 77 ((Aes.words key).length * 4) (fun j => U8 (Aes.byteOf (Aes.gw (Aes.words key) (j / 4)) (j % 4))) := by
  obtain ⟨n, hn, h4, h8⟩ : ∃ n, key.length = 4 * n ∧ 4 ≤ n ∧ n ≤ 8 := by
    rcases hk with h | h | h
    · exact ⟨4, by omega, by omega, by omega⟩
    · exact ⟨6, by omega, by omega, by omega⟩
    · exact ⟨8, by omega, by omega, by omega⟩
  have e : key.length / 4 = n := by omega
  have hl : (Aes.words key).length = 4 * (n + 7) := by rw [Aes.length_words, e]
  refine (refNew_w key n (Aes.words key) ?_ hn h4 h8 w).mono ?_
  · intro k hk
    unfold Aes.words
    rw [e]
    exact Aes.gw_next _ _ _ _ (by omega) hk
  · rintro _ w' ⟨b, v, rfl, hb, hge, hr, ho⟩
    obtain ⟨g, cap, rfl, hg, hc, _, hrg⟩ := ho.opened (by omega)
    rw [hl]
    exact ⟨b, g, cap, rfl, hb, hge, hg, hr, hrg⟩
end Go.Proofs.YtepogbfkmflooaaGreatDoor
namespace Go.Proofs.YtepogbfkmflooaaGreatDoor
open Go.RowKit
set_option linter.unusedSimpArgs false
set_option linter.unusedVariables false
namespace Sha
theorem ol_lt (kind : Nat) : 32 ≤ ol kind ∧ ol kind ≤ 64 := by unfold ol; split <;> (try split) <;> omega
theorem bs_le (kind : Nat) : 64 ≤ bs kind ∧ bs kind ≤ 128 := by unfold bs; split <;> omega
theorem ol_bs (kind : Nat) : ol kind ≤ bs kind := by
  rcases bs_cases kind with ⟨rfl, _, h⟩ | ⟨_, _, h⟩
  · decide
  · rw [h]; have := ol_lt kind; omega
def RuleAt (w : World) (rp kind : Nat) : Prop :=
  ∃ g cap, Row w rp 97 25 (rrow (.int .i64 (kind : Int)) (.int .i64 ((kind / 8 : Nat) : Int)) (.int .i64 ((bs kind : Nat) : Int)) (.int .i64 ((rounds (sm kind) : Nat) : Int)) (.slice (some ⟨g, 0, none⟩) (rounds (sm kind)) cap) (H0 kind) (fun i => U64 (BitVec.ofNat 64 (trn (sm kind) i)))) ∧
    Row w g 40 (rounds (sm kind)) (fun j => U64 (K (sm kind) j))
namespace RuleAt
variable {w w' : World} {rp kind : Nat}
theorem below (a : RuleAt w rp kind) (hb : Below w.heap.size w w') : RuleAt w' rp kind := by obtain ⟨g, c, r1, r2⟩ := a; exact ⟨g, c, r1.step hb, r2.step hb⟩
theorem lt (a : RuleAt w rp kind) : rp < w.heap.size := by obtain ⟨g, c, r1, r2⟩ := a; exact r1.lt
/-- kept where a row of another type changes -/
theorem onward {b n : Nat} {t : TypeId} {f : Nat → Value} (a : RuleAt w rp kind) (r : Row w b t n f) (h1 : t ≠ 97) (h2 : t ≠ 40) : ∀ w', w.grownBy w' (some b) → RuleAt w' rp kind := fun w' hg => by
  obtain ⟨g, c, r1, r2⟩ := a
  exact ⟨g, c, r1.stepG hg (fun e => r.ne_ r1 h1 e.symm), r2.stepG hg (fun e => r.ne_ r2 h2 e.symm)⟩
/-- a block made since -/
theorem fresh {b : Nat} (a : RuleAt w rp kind) (hg : w.grownBy w' (some b)) (hb : w.heap.size ≤ b) : RuleAt w' rp kind := by
  obtain ⟨g, c, r1, r2⟩ := a
  have := r1.lt; have := r2.lt
  exact ⟨g, c, r1.stepG hg (by omega), r2.stepG hg (by omega)⟩
end RuleAt
end Sha
section
variable (kind : Nat) (hk : Sha.Known kind) (m s : List (BitVec 8)) (w : World)
theorem size_l (hk : Sha.Known kind) : Calls Tryz.prog 56 #[.int .i64 (kind : Int)] w fun e w' => e = .returned (.tuple #[.int .i64 ((Sha.ol kind : Nat) : Int), .int .i64 ((Sha.bs kind : Nat) : Int), .int .i64 0]) ∧ Below w.heap.size w w' := by
  rcases hk with rfl | rfl | rfl
  · exact shaSize_256 w
  · exact shaSize_384 w
  · exact shaSize_512 w
theorem new_at (hk : Sha.Known kind) : Calls Tryz.prog 58 #[.int .i64 (kind : Int)] w fun e w' => ∃ p, e = .returned (.tuple #[.pointer (some ⟨p, 0, none⟩), .int .i64 0]) ∧ w.heap.size ≤ p ∧ Sha.At w' p kind [] ∧ Below w.heap.size w w' := by
  rcases hk with rfl | rfl | rfl
  · exact (shaNew_256 w).mono fun e w' ⟨p, h1, h2, h3, h4⟩ => ⟨p, h1, h2, Sha.At.of 256 64 0 rfl [] rfl (fun _ => 0#8) (fun j hj => absurd hj (by omega)) h3, h4⟩
  · exact (shaNew_384 w).mono fun e w' ⟨p, h1, h2, h3, h4⟩ => ⟨p, h1, h2, Sha.At.of 384 128 0 rfl [] rfl (fun _ => 0#8) (fun j hj => absurd hj (by omega)) h3, h4⟩
  · exact (shaNew_512 w).mono fun e w' ⟨p, h1, h2, h3, h4⟩ => ⟨p, h1, h2, Sha.At.of 512 128 0 rfl [] rfl (fun _ => 0#8) (fun j hj => absurd hj (by omega)) h3, h4⟩
variable (h : Nat)
theorem write_l (h1 : 0 < h ∧ 1 < h) (hk : Sha.Known kind) (hs : s.length ≤ 140737488351232) (a : Sha.At w h kind m) (hT : Sha.Tabs w) :
    Calls Tryz.prog 59 #[.pointer (some ⟨h, 0, none⟩), .string (str s)] w fun e w' => e = .returned (.int .i64 0) ∧ Sha.At w' h kind (m ++ s) ∧ w.grownBy w' (some h) := by
  obtain ⟨rr, hr, r⟩ := a
  rcases hk with rfl | rfl | rfl
  · exact write_256 h h1 m s hs rr hr w r hT
  · exact write_384 h h1 m s hs rr hr w r hT
  · exact write_512 h h1 m s hs rr hr w r hT
theorem sum_l (h1 : 0 < h ∧ 1 < h) (hk : Sha.Known kind) (hm : m.length ≤ 1152921504606846976) (a : Sha.At w h kind m) (hT : Sha.Tabs w) :
    Calls Tryz.prog 61 #[.pointer (some ⟨h, 0, none⟩)] w fun e w' => e = .returned (.tuple #[.string (str (Sha.sum kind m)), .int .i64 0]) ∧ Below w.heap.size w w' := by
  obtain ⟨rr, hr, r⟩ := a
  rcases hk with rfl | rfl | rfl
  · exact sum_256 h h1 m hm rr hr w r hT
  · exact sum_384 h h1 m hm rr hr w r hT
  · exact sum_512 h h1 m hm rr hr w r hT
theorem copy_l (h1 : 0 < h ∧ 1 < h) (hk : Sha.Known kind) (a : Sha.At w h kind m) :
    Calls Tryz.prog 60 #[.pointer (some ⟨h, 0, none⟩)] w fun e w' => ∃ p, e = .returned (.pointer (some ⟨p, 0, none⟩)) ∧ w.heap.size ≤ p ∧ Sha.At w' p kind m ∧ Below w.heap.size w w' := by
  obtain ⟨rr, hr, r⟩ := a
  rcases hk with rfl | rfl | rfl
  · exact copy_256 h h1 m rr hr w r
  · exact copy_384 h h1 m rr hr w r
  · exact copy_512 h h1 m rr hr w r
theorem known_l (hk : Sha.Known kind) : Calls Tryz.prog 45 #[.int .i64 (kind : Int)] w fun e w' => e = .returned (.bool true) ∧ Below w.heap.size w w' := by
  rcases hk with rfl | rfl | rfl
  · exact known_256 w
  · exact known_384 w
  · exact known_512 w
theorem make_l (hk : Sha.Known kind) : Calls Tryz.prog 47 #[.int .i64 (kind : Int)] w fun e w' => ∃ rp, e = .returned (.pointer (some ⟨rp, 0, none⟩)) ∧ w.heap.size ≤ rp ∧ Sha.RuleAt w' rp kind ∧ Below w.heap.size w w' := by
  rcases hk with rfl | rfl | rfl
  · exact (make_256 w).mono fun e w' ⟨rp, g, c, h1, h2, _, _, h5, h6, h7⟩ => ⟨rp, h1, h2, ⟨g, c, h5, h6⟩, h7⟩
  · exact (make_384 w).mono fun e w' ⟨rp, g, c, h1, h2, _, _, h5, h6, h7⟩ => ⟨rp, h1, h2, ⟨g, c, h5, h6⟩, h7⟩
  · exact (make_512 w).mono fun e w' ⟨rp, g, c, h1, h2, _, _, h5, h6, h7⟩ => ⟨rp, h1, h2, ⟨g, c, h5, h6⟩, h7⟩
theorem ruleSum_l (hk : Sha.Known kind) (hs : s.length ≤ 1099511627776) (a : Sha.RuleAt w h kind) : Calls Tryz.prog 64 #[.pointer (some ⟨h, 0, none⟩), .string (str s)] w fun e w' => e = .returned (.string (str (Sha.sum kind s))) ∧ Below w.heap.size w w' := by
  obtain ⟨g, c, r1, r2⟩ := a
  rcases hk with rfl | rfl | rfl
  · exact ruleSum_256 h g c s hs w r1 r2
  · exact ruleSum_384 h g c s hs w r1 r2
  · exact ruleSum_512 h g c s hs w r1 r2
end
end Go.Proofs.YtepogbfkmflooaaGreatDoor
