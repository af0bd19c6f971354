/-
  Digests: the contracts for every kind that is known. Conditions as each says.
-/
import Derived.Test.YtepogbfkmflooaaDoorShaD
import Derived.Test.YtepogbfkmflooaaDoorShaS
namespace Go.Proofs.YtepogbfkmflooaaDoor
open Go.RowKit
set_option linter.unusedSimpArgs false
set_option linter.unusedVariables false
namespace Sha
theorem ol_lt (kind : Nat) : 32 ≤ ol kind ∧ ol kind ≤ 64 := by unfold ol; split <;> (try split) <;> omega
theorem bs_le (kind : Nat) : 64 ≤ bs kind ∧ bs kind ≤ 128 := by unfold bs; split <;> omega
theorem ol_bs (kind : Nat) : ol kind ≤ bs kind := by
  rcases bs_cases kind with ⟨rfl, _, h⟩ | ⟨_, _, h⟩
  · decide
  · rw [h]; have := ol_lt kind; omega
def RuleAt (w : World) (rp kind : Nat) : Prop :=
  ∃ g cap, Row w rp 90 25 (rrow (.int .i64 (kind : Int)) (.int .i64 ((kind / 8 : Nat) : Int)) (.int .i64 ((bs kind : Nat) : Int)) (.int .i64 ((rounds (sm kind) : Nat) : Int)) (.slice (some ⟨g, 0, none⟩) (rounds (sm kind)) cap) (H0 kind) (fun i => U64 (BitVec.ofNat 64 (trn (sm kind) i)))) ∧
    Row w g 58 (rounds (sm kind)) (fun j => U64 (K (sm kind) j))
namespace RuleAt
variable {w w' : World} {rp kind : Nat}
theorem below (a : RuleAt w rp kind) (hb : Below w.heap.size w w') : RuleAt w' rp kind := by obtain ⟨g, c, r1, r2⟩ := a; exact ⟨g, c, r1.step hb, r2.step hb⟩
theorem lt (a : RuleAt w rp kind) : rp < w.heap.size := by obtain ⟨g, c, r1, r2⟩ := a; exact r1.lt
/-- kept where a row of another type changes -/
theorem onward {b n : Nat} {t : TypeId} {f : Nat → Value} (a : RuleAt w rp kind) (r : Row w b t n f) (h1 : t ≠ 90) (h2 : t ≠ 58) : ∀ w', w.grownBy w' (some b) → RuleAt w' rp kind := fun w' hg => by
  obtain ⟨g, c, r1, r2⟩ := a
  exact ⟨g, c, r1.stepG hg (fun e => r.ne_ r1 h1 e.symm), r2.stepG hg (fun e => r.ne_ r2 h2 e.symm)⟩
/-- a block made since -/
theorem fresh {b : Nat} (a : RuleAt w rp kind) (hg : w.grownBy w' (some b)) (hb : w.heap.size ≤ b) : RuleAt w' rp kind := by
  obtain ⟨g, c, r1, r2⟩ := a
  have := r1.lt; have := r2.lt
  exact ⟨g, c, r1.stepG hg (by omega), r2.stepG hg (by omega)⟩
end RuleAt
end Sha
section
variable (kind : Nat) (hk : Sha.Known kind) (m s : List (BitVec 8)) (w : World)
theorem size_l (hk : Sha.Known kind) : Calls Tryd.prog 37 #[.int .i64 (kind : Int)] w fun e w' => e = .returned (.tuple #[.int .i64 ((Sha.ol kind : Nat) : Int), .int .i64 ((Sha.bs kind : Nat) : Int), .int .i64 0]) ∧ Below w.heap.size w w' := by
  rcases hk with rfl | rfl | rfl
  · exact shaSize_256 w
  · exact shaSize_384 w
  · exact shaSize_512 w
theorem new_at (hk : Sha.Known kind) : Calls Tryd.prog 48 #[.int .i64 (kind : Int)] w fun e w' => ∃ p, e = .returned (.tuple #[.pointer (some ⟨p, 0, none⟩), .int .i64 0]) ∧ w.heap.size ≤ p ∧ Sha.At w' p kind [] ∧ Below w.heap.size w w' := by
  rcases hk with rfl | rfl | rfl
  · exact (shaNew_256 w).mono fun e w' ⟨p, h1, h2, h3, h4⟩ => ⟨p, h1, h2, Sha.At.of 256 64 0 rfl [] rfl (fun _ => 0#8) (fun j hj => absurd hj (by omega)) h3, h4⟩
  · exact (shaNew_384 w).mono fun e w' ⟨p, h1, h2, h3, h4⟩ => ⟨p, h1, h2, Sha.At.of 384 128 0 rfl [] rfl (fun _ => 0#8) (fun j hj => absurd hj (by omega)) h3, h4⟩
  · exact (shaNew_512 w).mono fun e w' ⟨p, h1, h2, h3, h4⟩ => ⟨p, h1, h2, Sha.At.of 512 128 0 rfl [] rfl (fun _ => 0#8) (fun j hj => absurd hj (by omega)) h3, h4⟩
variable (h : Nat)
theorem write_l (h1 : 0 < h ∧ 1 < h) (hk : Sha.Known kind) (hs : s.length ≤ 140737488351232) (a : Sha.At w h kind m) (hT : Sha.Tabs w) :
    Calls Tryd.prog 49 #[.pointer (some ⟨h, 0, none⟩), .string (str s)] w fun e w' => e = .returned (.int .i64 0) ∧ Sha.At w' h kind (m ++ s) ∧ w.grownBy w' (some h) := by
  obtain ⟨rr, hr, r⟩ := a
  rcases hk with rfl | rfl | rfl
  · exact write_256 h h1 m s hs rr hr w r hT
  · exact write_384 h h1 m s hs rr hr w r hT
  · exact write_512 h h1 m s hs rr hr w r hT
theorem sum_l (h1 : 0 < h ∧ 1 < h) (hk : Sha.Known kind) (hm : m.length ≤ 1152921504606846976) (a : Sha.At w h kind m) (hT : Sha.Tabs w) :
    Calls Tryd.prog 51 #[.pointer (some ⟨h, 0, none⟩)] w fun e w' => e = .returned (.tuple #[.string (str (Sha.sum kind m)), .int .i64 0]) ∧ Below w.heap.size w w' := by
  obtain ⟨rr, hr, r⟩ := a
  rcases hk with rfl | rfl | rfl
  · exact sum_256 h h1 m hm rr hr w r hT
  · exact sum_384 h h1 m hm rr hr w r hT
  · exact sum_512 h h1 m hm rr hr w r hT
theorem copy_l (h1 : 0 < h ∧ 1 < h) (hk : Sha.Known kind) (a : Sha.At w h kind m) :
    Calls Tryd.prog 50 #[.pointer (some ⟨h, 0, none⟩)] w fun e w' => ∃ p, e = .returned (.pointer (some ⟨p, 0, none⟩)) ∧ w.heap.size ≤ p ∧ Sha.At w' p kind m ∧ Below w.heap.size w w' := by
  obtain ⟨rr, hr, r⟩ := a
  rcases hk with rfl | rfl | rfl
  · exact copy_256 h h1 m rr hr w r
  · exact copy_384 h h1 m rr hr w r
  · exact copy_512 h h1 m rr hr w r
end
end Go.Proofs.YtepogbfkmflooaaDoor
