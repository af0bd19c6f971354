/-
  The last step of a law's row, where the law's call has made blocks of its own. No conditions. Fillings: what the program and the reference compute. Conditions as each says. Keys from passwords, plainly. No conditions. Steps of a walk, part 7: an element of an array's value. No conditions.
-/
import Derived.Test.YtepogbfkmflooaaDoorWords
import Derived.Test.YtepogbfkmflooaaDoorRows
import Derived.WalkKit
import Derived.ProofKit
import Derived.OpenShut
import Derived.ShutString
import Derived.SizedLaws
import Derived.Below
import Derived.ChangeSame
import Derived.Test.YtepogbfkmflooaaDoorGenMore
import Derived.Test.YtepogbfkmflooaaDoorCbcPlain
import Derived.Test.YtepogbfkmflooaaDoorAesBase
import Derived.Test.YtepogbfkmflooaaDoorGenSh
namespace Go.Proofs.YtepogbfkmflooaaDoor
open Go.RowKit Go.WideShapes Go.ChangeShapes
section
variable {H : Type} {enc : TypeId × Value → H} {P : Program}
theorem post_of_below {f : Func} {s : ChangeSpec} {apart fresh handsOn again : Bool} {W W' : World} {args : Array Value} {v : Value} {ds gs : List (DataW H)} {before pa pv : List MemPlace}
    (hW : DataW.Whole enc P f.params.toList s.vars apart W args.toList ds gs before)
    (hres : ∀ (b : Nat) (sp : Nat → Bool) (hd : Bool), DataW.TrodAll enc P W' b sp hd f.resultTypes.toList (v.resultList f.resultTypes.size) (s.fn H (ds ++ gs)).results [])
    (hargs : ∀ sp : Nat → Bool, (∀ p ∈ before, sp p.block = true) → DataW.TrodAll enc P W' 0 sp true f.params.toList args.toList (s.fn H (ds ++ gs)).args pa)
    (hvars : ∀ sp : Nat → Bool, (∀ p ∈ before, sp p.block = true) → DataW.TrodVars enc P W' sp s.vars (s.fn H (ds ++ gs)).vars pv)
    (hps : before = pa ++ pv) (hb : Below W.heap.size W W')
    (hok : ∀ (j : Nat) (t : TypeId) (r : Value), f.resultTypes[j]? = some t → (v.resultList f.resultTypes.size)[j]? = some r → Value.okWide P W' .any 0 t r) :
    s.post enc P f apart fresh handsOn again W args v W' := by
  have hlt : ∀ p ∈ before, p.block < W.heap.size := fun p hp => hW.lt p hp
  have hold : ∀ p ∈ before, (fun b => decide (b < W.heap.size)) p.block = true := fun p hp => by simpa using hlt p hp
  refine ⟨ds, gs, before, [], pa, pv, hW, hres _ _ _, hargs _ hold, hvars _ hold, World.keptBut_mono (fun p hp => ⟨hp, ?_⟩) (hb.frame (· ∈ before)), fun _ => ?_⟩
  · rw [hps, List.mem_append] at hp
    exact Or.inr hp
  · obtain ⟨_, _, _, _, _, hz, hn⟩ := hW
    refine ⟨hok, _, _, ([] ++ pa) ++ pv, ⟨[] ++ pa, pv, trodAll_append (hargs _ (fun _ _ => rfl)) (hres _ _ _), hvars _ (fun _ _ => rfl), rfl, ?_, ?_⟩, ?_⟩
    · intro b off hp
      have hin : MemPlace.cell b off ∈ before := by rw [hps]; simpa using hp
      rw [hb.frozen (hlt _ hin)]
      exact hz b off hin
    · intro ha
      have := hn ha
      rw [hps] at this
      simpa using this
    · intro p hp _
      rw [hps]
      simpa using hp
end
theorem own : ownKnob Tryd.prog.godebug = none := by kernel_rfl
end Go.Proofs.YtepogbfkmflooaaDoor
namespace Go.Proofs.YtepogbfkmflooaaDoor
open Go.RowKit
set_option linter.unusedSimpArgs false
set_option linter.unusedVariables false
set_option maxRecDepth 100000
set_option maxHeartbeats 1000000
namespace CbcAT
theorem mixed : Tryd.prog.follows .mixedOrders = true := by kernel_rfl
theorem so3 : (Tryd.prog.underlying 3).isSome = true := by rw [Tryd.underlying3]; rfl
theorem so5 : (Tryd.prog.underlying 5).isSome = true := by rw [Tryd.underlying5]; rfl
end CbcAT
end Go.Proofs.YtepogbfkmflooaaDoor
namespace Go.Proofs.YtepogbfkmflooaaDoor
open Go.RowKit
set_option linter.unusedSimpArgs false
set_option linter.unusedVariables false
namespace Pb
def err (k : Int) (salt : List (BitVec 8)) (r l : Int) : Int :=
  if ¬ (k = 256 ∨ k = 384 ∨ k = 512) then 11 else if r < 1 ∨ l < 1 ∨ 256 < l then 2 else if 4096 < r then 14 else if 1024 < salt.length then 4 else 0
def un (kind : Nat) (pw salt : List (BitVec 8)) (i : Nat) : Nat → List (BitVec 8)
  | 0 => Hm.mac kind pw (salt ++ Oct.be (BitVec.ofNat 64 i) 4)
  | k + 1 => Hm.mac kind pw (un kind pw salt i k)
def tn (kind : Nat) (pw salt : List (BitVec 8)) (i : Nat) : Nat → List (BitVec 8)
  | 0 => un kind pw salt i 0
  | k + 1 => Oct.xor (tn kind pw salt i k) (un kind pw salt i (k + 1))
def out (kind : Nat) (pw salt : List (BitVec 8)) (r : Nat) : Nat → List (BitVec 8)
  | 0 => []
  | n + 1 => out kind pw salt r n ++ tn kind pw salt (n + 1) (r - 1)
def dk (kind : Nat) (pw salt : List (BitVec 8)) (r l : Nat) : List (BitVec 8) :=
  (List.range l).map fun j => gb (tn kind pw salt (j / Sha.ol kind + 1) (r - 1)) (j % Sha.ol kind)
def key (k : Int) (pw salt : List (BitVec 8)) (r l : Int) : List (BitVec 8) × Int :=
  if err k salt r l = 0 then (dk k.toNat pw salt r.toNat l.toNat, 0) else ([], err k salt r l)
theorem un_len (kind : Nat) (pw salt : List (BitVec 8)) (i : Nat) : ∀ k, (un kind pw salt i k).length = Sha.ol kind
  | 0 => Hm.mac_len _ _ _
  | _ + 1 => Hm.mac_len _ _ _
theorem tn_len (kind : Nat) (pw salt : List (BitVec 8)) (i : Nat) : ∀ k, (tn kind pw salt i k).length = Sha.ol kind
  | 0 => un_len kind pw salt i 0
  | k + 1 => by show (Oct.xor _ _).length = _; rw [Oct.length_xor, tn_len kind pw salt i k, un_len]; omega
theorem out_len (kind : Nat) (pw salt : List (BitVec 8)) (r : Nat) : ∀ n, (out kind pw salt r n).length = Sha.ol kind * n
  | 0 => rfl
  | n + 1 => by show (out kind pw salt r n ++ tn kind pw salt (n + 1) (r - 1)).length = _; rw [List.length_append, out_len kind pw salt r n, tn_len, Nat.mul_succ]
theorem dk_len (kind : Nat) (pw salt : List (BitVec 8)) (r l : Nat) : (dk kind pw salt r l).length = l := by simp [dk]
theorem gb_tn (kind : Nat) (pw salt : List (BitVec 8)) (i k j : Nat) (h : j < Sha.ol kind) : gb (tn kind pw salt i (k + 1)) j = gb (tn kind pw salt i k) j ^^^ gb (un kind pw salt i (k + 1)) j := by
  show gb (Oct.xor _ _) j = _
  rw [Oct.gb_xor _ _ _ (by rw [tn_len, un_len]; omega)]
theorem gb_out (kind : Nat) (pw salt : List (BitVec 8)) (r : Nat) : ∀ n j, j < Sha.ol kind * n → gb (out kind pw salt r n) j = gb (tn kind pw salt (j / Sha.ol kind + 1) (r - 1)) (j % Sha.ol kind)
  | 0, j, h => absurd h (by omega)
  | n + 1, j, h => by
    have hol := Sha.ol_lt kind
    rw [Nat.mul_succ] at h
    show gb (out kind pw salt r n ++ tn kind pw salt (n + 1) (r - 1)) j = _
    rw [gb_append, out_len]
    by_cases e : j < Sha.ol kind * n
    · rw [if_pos e]; exact gb_out kind pw salt r n j e
    · rw [if_neg e]
      obtain ⟨q, rfl⟩ : ∃ q, j = Sha.ol kind * n + q := ⟨j - Sha.ol kind * n, by omega⟩
      rw [Nat.mul_add_div (by omega), Nat.mul_add_mod, Nat.div_eq_of_lt (by omega), Nat.mod_eq_of_lt (by omega), Nat.add_sub_cancel_left, Nat.add_zero]
theorem gb_dk (kind : Nat) (pw salt : List (BitVec 8)) (r l j : Nat) (h : j < l) : gb (dk kind pw salt r l) j = gb (tn kind pw salt (j / Sha.ol kind + 1) (r - 1)) (j % Sha.ol kind) := gb_map _ _ _ h
theorem out_take (kind : Nat) (pw salt : List (BitVec 8)) (r n l : Nat) (h : l ≤ Sha.ol kind * n) : (out kind pw salt r n).take l = dk kind pw salt r l := by
  refine gb_ext ?_ (fun i hi => ?_)
  · rw [List.length_take, out_len, dk_len]; omega
  · rw [List.length_take, out_len] at hi
    rw [gb_take _ _ _ (by omega), gb_out _ _ _ _ _ _ (by omega)]
    exact (gb_dk _ _ _ _ _ _ (by omega)).symm
theorem err_bound (k : Int) (salt : List (BitVec 8)) (r l : Int) : 0 ≤ err k salt r l ∧ err k salt r l ≤ 14 := by
  unfold err; split <;> (try split) <;> (try split) <;> (try split) <;> omega
theorem key_bound (k : Int) (pw salt : List (BitVec 8)) (r l : Int) : 0 ≤ (key k pw salt r l).2 ∧ (key k pw salt r l).2 ≤ 14 := by
  unfold key
  split
  · exact ⟨Int.le_refl 0, (by decide : (0 : Int) ≤ 14)⟩
  · exact err_bound k salt r l
theorem key_err (k : Int) (pw salt : List (BitVec 8)) (r l : Int) (h : err k salt r l ≠ 0) : key k pw salt r l = ([], err k salt r l) := if_neg h
theorem key_ok (kind : Nat) (hk : Sha.Known kind) (pw salt : List (BitVec 8)) (r l : Nat) (hr : 1 ≤ r) (hr2 : r ≤ 4096) (hl : 1 ≤ l) (hl2 : l ≤ 256) (hs : salt.length ≤ 1024) : key (kind : Int) pw salt (r : Int) (l : Int) = (dk kind pw salt r l, 0) := by
  have e : err (kind : Int) salt (r : Int) (l : Int) = 0 := by
    unfold err
    rw [if_neg (fun h => h (by rcases hk with h | h | h <;> omega)), if_neg (by omega), if_neg (by omega), if_neg (by omega)]
  unfold key
  rw [if_pos e]
  simp
theorem shr_zero (i : Nat) (h : i < 4294967296) : BitVec.ofNat 64 i >>> (8 * 4) = 0#64 := by
  apply BitVec.eq_of_toNat_eq
  rw [BitVec.toNat_ushiftRight, BitVec.toNat_ofNat, Nat.shiftRight_eq_div_pow, show (0#64 : BitVec 64).toNat = 0 from rfl]
  omega
end Pb
end Go.Proofs.YtepogbfkmflooaaDoor
namespace Go.Proofs.YtepogbfkmflooaaDoor
open Go.RowKit
set_option linter.unusedSimpArgs false
set_option linter.unusedVariables false
section
variable {P : Program} {w : World} {n : Nat} {f : Nat → Value}
variable {ty : TypeId} {x y : Operand} {v : Value} {t e : TypeId} {F : Nat → Value} {a : Int}
theorem y_idxa {m i : Nat} {k : IntKind} (hx : Ev n f x (.agg (arr m F))) (hy : Ev n f y (.int k a)) (ht : P.underlying t = some (.array m e)) (hu : (P.underlying e).map scal = some true) (hs : (P.info? e).map (·.size) = some 1) (hi : a = (i : Int)) (hlt : i < m) : Yields P n f (.index t x y) ty w (F i) := by
  have h1 : (fr n f).eval x = .agg (arr m F) := hx
  have h2 : (fr n f).eval y = .int k a := hy
  subst hi
  obtain ⟨d, h3, h4⟩ := Option.map_eq_some_iff.1 hu
  have hag : (isAgg e).run P w = .ok false w := by
    unfold isAgg
    rw [Sem.run_bind, run_underlying h3 w]
    cases d <;> simp_all [scal]
  obtain ⟨inf, h5, h6⟩ := Option.map_eq_some_iff.1 hs
  have hsz : (sizeOf e).run P w = .ok 1 w := by
    simp [sizeOf, typeInfo, Sem.run_bind, h5, h6]
  unfold Yields execOp
  simp only [h1, h2]
  have hlt' : (0 : Int) ≤ (i : Int) ∧ (i : Int) < (m : Int) := ⟨by omega, by omega⟩
  simp [Instr.index, asIntOf, Sem.run_bind, run_underlying ht, hlt, hsz, part, hag, arr_at _ _ _ hlt, go_sem]
end
end Go.Proofs.YtepogbfkmflooaaDoor
