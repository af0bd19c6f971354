/-
  AES: the reference's product. No conditions. Digests: the contracts for every kind that is known. Conditions as each says.
-/
import Derived.Test.YtdmbfimjbmfbaaaGreatDoorAesEnc
import Derived.Test.YtdmbfimjbmfbaaaGreatDoorOct
import Derived.Test.YtdmbfimjbmfbaaaGreatDoorShaD
import Derived.Test.YtdmbfimjbmfbaaaGreatDoorShaM
import Derived.Test.YtdmbfimjbmfbaaaGreatDoorShaS
namespace Go.Proofs.YtdmbfimjbmfbaaaGreatDoor
open Go.RowKit
set_option linter.unusedSimpArgs false
set_option linter.unusedVariables false
theorem xor_i64 (p q : Nat) (hp : p < 65536) (hq : q < 65536) : bits .xor .i64 (p : Int) (q : Int) = ((p ^^^ q : Nat) : Int) := by
  have hx : p ^^^ q < 2 ^ 16 := Nat.xor_lt_two_pow hp hq
  have e : ∀ a : Nat, a < 65536 → (BitVec.ofInt 64 (a : Int)).toNat = a := fun a ha => by
    rw [BitVec.ofInt_natCast, BitVec.toNat_ofNat]; exact Nat.mod_eq_of_lt (by omega)
  show IntKind.i64.wrap ((BitVec.ofInt 64 (p : Int) ^^^ BitVec.ofInt 64 (q : Int)).toNat : Int) = _
  rw [BitVec.toNat_xor, e p hp, e q hq]
  exact IntWalk.i64_in _ (by omega)
theorem and1_i64 (p : Nat) (hp : p < 65536) : bits .and .i64 (p : Int) 1 = ((p % 2 : Nat) : Int) := by
  have e : (BitVec.ofInt 64 (p : Int)).toNat = p := by
    rw [BitVec.ofInt_natCast, BitVec.toNat_ofNat]; exact Nat.mod_eq_of_lt (by omega)
  show IntKind.i64.wrap ((BitVec.ofInt 64 (p : Int) &&& BitVec.ofInt 64 1).toNat : Int) = _
  rw [BitVec.toNat_and, e, show (BitVec.ofInt 64 1).toNat = 1 from rfl, Nat.and_one_is_mod]
  exact IntWalk.i64_in _ (by omega)
theorem Aes.rm1_lt (a b : BitVec 8) (k : Nat) (hk : k ≤ 8) : Aes.rm1 a b k < 65536 := by
  induction k with
  | zero => exact Nat.zero_lt_succ _
  | succ k ih =>
    have h1 := ih (by omega)
    have h2 : a.toNat * 2 ^ k < 2 ^ 16 := by
      have := a.isLt
      have : 2 ^ k ≤ 2 ^ 7 := Nat.pow_le_pow_right (by decide) (by omega)
      calc a.toNat * 2 ^ k ≤ 255 * 2 ^ 7 := Nat.mul_le_mul (by omega) this
        _ < 2 ^ 16 := by decide
    unfold Aes.rm1
    split
    · exact Nat.xor_lt_two_pow (n := 16) h1 h2
    · exact h1
theorem refMul_c (a b : BitVec 8) (w : World) : Calls Tryz.prog 35 #[U8 a, U8 b] w fun e w' => e = .returned (U8 (Aes.mul a b)) ∧ w = w' := by
  go_enter Tryz.func35, Tryz.ntmps35
  go_wp2
  go_loopg [5, 6] 8 (fun d p i wr => wr = w ∧ ∃ k : Nat, k ≤ 8 ∧ d = 8 - k ∧ i = .int .i64 k ∧ p = .int .i64 (Aes.rm1 a b k : Nat))
  case atStart => exact ⟨rfl, 0, by omega, rfl, rfl, rfl⟩
  case round =>
    obtain ⟨rfl, k, hk, rfl, rfl, rfl⟩ := hrel
    by_cases hlt : k < 8
    · obtain ⟨q, hq⟩ : ∃ q, q = a.toNat * 2 ^ k := ⟨_, rfl⟩
      have hq16 : q < 65536 := by
        have := a.isLt
        have : 2 ^ k ≤ 2 ^ 7 := Nat.pow_le_pow_right (by decide) (by omega)
        calc q = a.toNat * 2 ^ k := hq
          _ ≤ 255 * 2 ^ 7 := Nat.mul_le_mul (by omega) this
          _ < 65536 := by decide
      have hr := Aes.rm1_lt a b k hk
      have h1 : wrap64 ((a.toNat : Int) * 2 ^ k) = (q : Int) := by
        rw [hq, IntWalk.wrap64_in _ (by
          have e : ((a.toNat : Int) * 2 ^ k) = ((a.toNat * 2 ^ k : Nat) : Int) := by simp
          rw [e, ← hq]; omega)]
        simp
      have h2 := xor_i64 (Aes.rm1 a b k) q hr hq16
      have hs : Aes.rm1 a b (k + 1) = if (b >>> k &&& 1#8 == 1#8) then Aes.rm1 a b k ^^^ q else Aes.rm1 a b k := by rw [hq]; rfl
      have HS := Lib.hid hs
      have HQ := Lib.hid hq
      clear hs hq hr hq16
      go_wp2
      · go_roundg (8 - (k + 1))
        case measure => omega
        case rel => exact ⟨rfl, k + 1, by omega, rfl, by go_num, by rw [HS.out, if_pos ‹_›]⟩
      · go_roundg (8 - (k + 1))
        case measure => omega
        case rel => exact ⟨rfl, k + 1, by omega, rfl, by go_num, by rw [HS.out, if_neg (by simp [*])]⟩
    · obtain rfl : k = 8 := by omega
      go_wp2
      go_loopg [5, 7] 7 (fun d x i wr' => wr' = wr ∧ ∃ k p : Nat, k ≤ 7 ∧ d = 7 - k ∧ i = .int .i64 (14 - (k : Int)) ∧ x = .int .i64 (p : Int) ∧ p < 65536 ∧ Hid (p = Aes.rm2 (Aes.rm1 a b 8) k))
      case atStart => exact ⟨rfl, 0, _, by omega, rfl, rfl, rfl, Aes.rm1_lt a b 8 (by decide), rfl⟩
      case round =>
        obtain ⟨rfl, k, p, hk7, rfl, rfl, rfl, hp, HP⟩ := hrel
        by_cases hlt7 : k < 7
        · have hs : Aes.rm2 (Aes.rm1 a b 8) (k + 1) = if p / 2 ^ (14 - k) % 2 = 1 then p ^^^ (283 * 2 ^ (6 - k)) else p := by rw [HP.out]; rfl
          have hp2 : p / 2 ^ (14 - k) < 65536 := Nat.lt_of_le_of_lt (Nat.div_le_self _ _) hp
          have ha : bits .and .i64 ((p : Int) / 2 ^ (14 - k)) 1 = ((p / 2 ^ (14 - k) % 2 : Nat) : Int) := by
            rw [← and1_i64 _ hp2]; simp
          have HS := Lib.hid hs
          clear hs
          by_cases hbit : p / 2 ^ (14 - k) % 2 = 1
          · have ht : (bits .and .i64 ((p : Int) / 2 ^ (14 - k)) 1 == 1) = true := by rw [ha, hbit]; rfl
            obtain ⟨q, hq⟩ : ∃ q, q = 283 * 2 ^ (6 - k) := ⟨_, rfl⟩
            have hq16 : q < 65536 := by
              have : 2 ^ (6 - k) ≤ 2 ^ 6 := Nat.pow_le_pow_right (by decide) (by omega)
              omega
            have h1 : wrap64 (283 * 2 ^ (14 - k - 8)) = (q : Int) := by
              rw [show 14 - k - 8 = 6 - k from by omega, IntWalk.wrap64_in _ (by
                have e : ((283 : Int) * 2 ^ (6 - k)) = ((283 * 2 ^ (6 - k) : Nat) : Int) := by simp
                rw [e, ← hq]; omega), hq]
              simp
            have h2 := xor_i64 p q hp hq16
            have hx : p ^^^ q < 65536 := Nat.xor_lt_two_pow (n := 16) hp hq16
            have HQ := Lib.hid hq
            have HB := Lib.hid hbit
            have HX := Lib.hid hx
            clear hq hbit hq16 ha hp2 hx
            go_wp2
            go_roundg (7 - (k + 1))
            case measure => omega
            case rel => exact ⟨rfl, k + 1, p ^^^ q, by omega, rfl, by rw [show (14 : Int) - ((k + 1 : Nat) : Int) = 14 - (k : Int) - 1 from by omega], rfl, HX.out, by show _ = _; rw [HS.out, if_pos HB.out, HQ.out]⟩
          · have ht : (bits .and .i64 ((p : Int) / 2 ^ (14 - k)) 1 == 1) = false := by rw [ha, beq_eq_false_iff_ne]; omega
            have HB := Lib.hid hbit
            clear hbit ha hp2
            go_wp2
            go_roundg (7 - (k + 1))
            case measure => omega
            case rel => exact ⟨rfl, k + 1, p, by omega, rfl, by rw [show (14 : Int) - ((k + 1 : Nat) : Int) = 14 - (k : Int) - 1 from by omega], rfl, hp, by show _ = _; rw [HS.out, if_neg HB.out]⟩
        · obtain rfl : k = 7 := by omega
          go_wp2
          go_ret
          refine ⟨congrArg Ending.returned ((fold_u8 (p : Int)).trans (congrArg U8 ?_)), rfl⟩
          rw [← Aes.rmul_eq]
          show BitVec.ofInt 8 (p : Int) = BitVec.ofNat 8 (Aes.rm2 (Aes.rm1 a b 8) 7)
          rw [← HP.out]
          simp
end Go.Proofs.YtdmbfimjbmfbaaaGreatDoor
namespace Go.Proofs.YtdmbfimjbmfbaaaGreatDoor
open Go.RowKit
set_option linter.unusedSimpArgs false
set_option linter.unusedVariables false
namespace Sha
theorem ol_lt (kind : Nat) : 32 ≤ ol kind ∧ ol kind ≤ 64 := by unfold ol; split <;> (try split) <;> omega
theorem bs_le (kind : Nat) : 64 ≤ bs kind ∧ bs kind ≤ 128 := by unfold bs; split <;> omega
theorem ol_bs (kind : Nat) : ol kind ≤ bs kind := by
  rcases bs_cases kind with ⟨rfl, _, h⟩ | ⟨_, _, h⟩
  · decide
  · rw [h]; have := ol_lt kind; omega
def RuleAt (w : World) (rp kind : Nat) : Prop :=
  ∃ g cap, Row w rp 96 25 (rrow (.int .i64 (kind : Int)) (.int .i64 ((kind / 8 : Nat) : Int)) (.int .i64 ((bs kind : Nat) : Int)) (.int .i64 ((rounds (sm kind) : Nat) : Int)) (.slice (some ⟨g, 0, none⟩) (rounds (sm kind)) cap) (H0 kind) (fun i => U64 (BitVec.ofNat 64 (trn (sm kind) i)))) ∧
    Row w g 92 (rounds (sm kind)) (fun j => U64 (K (sm kind) j))
namespace RuleAt
variable {w w' : World} {rp kind : Nat}
theorem below (a : RuleAt w rp kind) (hb : Below w.heap.size w w') : RuleAt w' rp kind := by obtain ⟨g, c, r1, r2⟩ := a; exact ⟨g, c, r1.step hb, r2.step hb⟩
theorem lt (a : RuleAt w rp kind) : rp < w.heap.size := by obtain ⟨g, c, r1, r2⟩ := a; exact r1.lt
/-- kept where a row of another type changes -/
theorem onward {b n : Nat} {t : TypeId} {f : Nat → Value} (a : RuleAt w rp kind) (r : Row w b t n f) (h1 : t ≠ 96) (h2 : t ≠ 92) : ∀ w', w.grownBy w' (some b) → RuleAt w' rp kind := fun w' hg => by
  obtain ⟨g, c, r1, r2⟩ := a
  exact ⟨g, c, r1.stepG hg (fun e => r.ne_ r1 h1 e.symm), r2.stepG hg (fun e => r.ne_ r2 h2 e.symm)⟩
/-- a block made since -/
theorem fresh {b : Nat} (a : RuleAt w rp kind) (hg : w.grownBy w' (some b)) (hb : w.heap.size ≤ b) : RuleAt w' rp kind := by
  obtain ⟨g, c, r1, r2⟩ := a
  have := r1.lt; have := r2.lt
  exact ⟨g, c, r1.stepG hg (by omega), r2.stepG hg (by omega)⟩
end RuleAt
end Sha
section
variable (kind : Nat) (hk : Sha.Known kind) (m s : List (BitVec 8)) (w : World)
theorem size_l (hk : Sha.Known kind) : Calls Tryz.prog 48 #[.int .i64 (kind : Int)] w fun e w' => e = .returned (.tuple #[.int .i64 ((Sha.ol kind : Nat) : Int), .int .i64 ((Sha.bs kind : Nat) : Int), .int .i64 0]) ∧ Below w.heap.size w w' := by
  rcases hk with rfl | rfl | rfl
  · exact shaSize_256 w
  · exact shaSize_384 w
  · exact shaSize_512 w
theorem new_at (hk : Sha.Known kind) : Calls Tryz.prog 50 #[.int .i64 (kind : Int)] w fun e w' => ∃ p, e = .returned (.tuple #[.pointer (some ⟨p, 0, none⟩), .int .i64 0]) ∧ w.heap.size ≤ p ∧ Sha.At w' p kind [] ∧ Below w.heap.size w w' := by
  rcases hk with rfl | rfl | rfl
  · exact (shaNew_256 w).mono fun e w' ⟨p, h1, h2, h3, h4⟩ => ⟨p, h1, h2, Sha.At.of 256 64 0 rfl [] rfl (fun _ => 0#8) (fun j hj => absurd hj (by omega)) h3, h4⟩
  · exact (shaNew_384 w).mono fun e w' ⟨p, h1, h2, h3, h4⟩ => ⟨p, h1, h2, Sha.At.of 384 128 0 rfl [] rfl (fun _ => 0#8) (fun j hj => absurd hj (by omega)) h3, h4⟩
  · exact (shaNew_512 w).mono fun e w' ⟨p, h1, h2, h3, h4⟩ => ⟨p, h1, h2, Sha.At.of 512 128 0 rfl [] rfl (fun _ => 0#8) (fun j hj => absurd hj (by omega)) h3, h4⟩
variable (h : Nat)
theorem write_l (h1 : 0 < h ∧ 1 < h) (hk : Sha.Known kind) (hs : s.length ≤ 140737488351232) (a : Sha.At w h kind m) (hT : Sha.Tabs w) :
    Calls Tryz.prog 51 #[.pointer (some ⟨h, 0, none⟩), .string (str s)] w fun e w' => e = .returned (.int .i64 0) ∧ Sha.At w' h kind (m ++ s) ∧ w.grownBy w' (some h) := by
  obtain ⟨rr, hr, r⟩ := a
  rcases hk with rfl | rfl | rfl
  · exact write_256 h h1 m s hs rr hr w r hT
  · exact write_384 h h1 m s hs rr hr w r hT
  · exact write_512 h h1 m s hs rr hr w r hT
theorem sum_l (h1 : 0 < h ∧ 1 < h) (hk : Sha.Known kind) (hm : m.length ≤ 1152921504606846976) (a : Sha.At w h kind m) (hT : Sha.Tabs w) :
    Calls Tryz.prog 53 #[.pointer (some ⟨h, 0, none⟩)] w fun e w' => e = .returned (.tuple #[.string (str (Sha.sum kind m)), .int .i64 0]) ∧ Below w.heap.size w w' := by
  obtain ⟨rr, hr, r⟩ := a
  rcases hk with rfl | rfl | rfl
  · exact sum_256 h h1 m hm rr hr w r hT
  · exact sum_384 h h1 m hm rr hr w r hT
  · exact sum_512 h h1 m hm rr hr w r hT
theorem copy_l (h1 : 0 < h ∧ 1 < h) (hk : Sha.Known kind) (a : Sha.At w h kind m) :
    Calls Tryz.prog 52 #[.pointer (some ⟨h, 0, none⟩)] w fun e w' => ∃ p, e = .returned (.pointer (some ⟨p, 0, none⟩)) ∧ w.heap.size ≤ p ∧ Sha.At w' p kind m ∧ Below w.heap.size w w' := by
  obtain ⟨rr, hr, r⟩ := a
  rcases hk with rfl | rfl | rfl
  · exact copy_256 h h1 m rr hr w r
  · exact copy_384 h h1 m rr hr w r
  · exact copy_512 h h1 m rr hr w r
theorem known_l (hk : Sha.Known kind) : Calls Tryz.prog 27 #[.int .i64 (kind : Int)] w fun e w' => e = .returned (.bool true) ∧ Below w.heap.size w w' := by
  rcases hk with rfl | rfl | rfl
  · exact known_256 w
  · exact known_384 w
  · exact known_512 w
theorem make_l (hk : Sha.Known kind) : Calls Tryz.prog 29 #[.int .i64 (kind : Int)] w fun e w' => ∃ rp, e = .returned (.pointer (some ⟨rp, 0, none⟩)) ∧ w.heap.size ≤ rp ∧ Sha.RuleAt w' rp kind ∧ Below w.heap.size w w' := by
  rcases hk with rfl | rfl | rfl
  · exact (make_256 w).mono fun e w' ⟨rp, g, c, h1, h2, _, _, h5, h6, h7⟩ => ⟨rp, h1, h2, ⟨g, c, h5, h6⟩, h7⟩
  · exact (make_384 w).mono fun e w' ⟨rp, g, c, h1, h2, _, _, h5, h6, h7⟩ => ⟨rp, h1, h2, ⟨g, c, h5, h6⟩, h7⟩
  · exact (make_512 w).mono fun e w' ⟨rp, g, c, h1, h2, _, _, h5, h6, h7⟩ => ⟨rp, h1, h2, ⟨g, c, h5, h6⟩, h7⟩
theorem ruleSum_l (hk : Sha.Known kind) (hs : s.length ≤ 1099511627776) (a : Sha.RuleAt w h kind) : Calls Tryz.prog 38 #[.pointer (some ⟨h, 0, none⟩), .string (str s)] w fun e w' => e = .returned (.string (str (Sha.sum kind s))) ∧ Below w.heap.size w w' := by
  obtain ⟨g, c, r1, r2⟩ := a
  rcases hk with rfl | rfl | rfl
  · exact ruleSum_256 h g c s hs w r1 r2
  · exact ruleSum_384 h g c s hs w r1 r2
  · exact ruleSum_512 h g c s hs w r1 r2
end
end Go.Proofs.YtdmbfimjbmfbaaaGreatDoor
