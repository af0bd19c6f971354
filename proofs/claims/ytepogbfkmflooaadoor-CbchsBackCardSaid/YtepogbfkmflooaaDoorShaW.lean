/-
  Digests: of texts; the example. Conditions as each says. Digests with a key, plainly. No conditions. Steps of a walk, part 7: an element of an array's value. No conditions.
-/
import Derived.Test.YtepogbfkmflooaaDoorRows
import Derived.Test.YtepogbfkmflooaaDoorShaUse
import Derived.Test.YtepogbfkmflooaaDoorGenSh
import Derived.ProofKit
import Derived.Test.YtepogbfkmflooaaDoorGenMore
namespace Go.Proofs.YtepogbfkmflooaaDoor
open Go.RowKit
set_option linter.unusedSimpArgs false
set_option linter.unusedVariables false
set_option maxRecDepth 100000
set_option maxHeartbeats 1000000
namespace ShaWT
theorem mixed : Tryd.prog.follows .mixedOrders = true := by kernel_rfl
end ShaWT
theorem shaText_l (kind : Nat) (hkd : Sha.Known kind) (s : List (BitVec 8)) (hs : s.length ≤ 140737488351232) (w0 : World) (hT : Sha.Tabs w0) : Calls Tryd.prog 47 #[.int .i64 ((kind : Nat) : Int), .string (str s)] w0 fun e w' => e = .returned (.tuple #[.string (str (Sha.sum kind s)), .int .i64 0]) ∧ Below w0.heap.size w0 w' := by
 have ag := hT.lt
 refine enter (n := 23) Tryd.func47 rfl rfl rfl ?_
 have hk : Below w0.heap.size w0 w0 := Below.refl _ _
 refine sr (w_as (evc (.string (str ([] : List (BitVec 8))))) (w_as Ev.c (nt (sr (w_mv ei (w_call (Tryd.func48) kr rfl (m1 ei) (new_at kind w0 hkd) ?_))))))
 rintro _ w1 ⟨p, rfl, ac, ha, aa⟩
 refine ⟨_, rfl, ?_⟩
 have af : w0.heap.size ≤ p := by have := hk.size; omega
 replace hk := thenB hk aa
 replace hT := Sha.Tabs.below hT aa
 refine w_mv (ex (.tuple #[pt p 0, .int .i64 0])) (w_val ye (w_val ye (w_as (ex (pt p 0)) (w_as ei (nt (wp_seq (sr (w_mv ei (w_val (y_bin ei Ev.c b_neq) (nt (c_ff eb (wp_skip (then_n (sr (w_mv (ex (pt p 0)) (w_mv es ?_))))))))))))))))
 have ae := ha
 clear ha
 refine w_call (Tryd.func49) kr rfl (m2 (ex (pt p 0)) es) (write_l kind ([]) s w1 p om hkd om ae hT) ?_
 rintro _ w2 ⟨rfl, ha, ad⟩
 refine ⟨_, rfl, ?_⟩
 replace hk := thenG hk ad om
 replace hT := Sha.Tabs.grown hT ad om om
 refine nt (sr (w_mv (ex (pt p 0)) (w_call (Tryd.func51) kr rfl (m1 (ex (pt p 0))) (sum_l kind (([]) ++ s) w2 p om hkd (by (try simp only [List.nil_append, List.length_append, List.length_nil, Sha.length_sum]); omega) ha hT) ?_)))
 rintro _ w3 ⟨rfl, ab⟩
 refine ⟨_, rfl, ?_⟩
 replace hk := thenB hk ab
 replace hT := Sha.Tabs.below hT ab
 replace ha := Sha.At.below ha ab
 refine w_val ye (w_val ye (w_as es (w_as ei (nt (wp_ret (fin_ret2 rfl es ei ?_))))))
 refine ⟨congrArg Ending.returned ?_, hk⟩
 show (.tuple #[.string (str (Sha.sum kind (([]) ++ s))), .int .i64 0] : Value) = .tuple #[.string (str (Sha.sum kind s)), .int .i64 0]
 simp only [List.nil_append]

end Go.Proofs.YtepogbfkmflooaaDoor
namespace Go.Proofs.YtepogbfkmflooaaDoor
open Go.RowKit
set_option linter.unusedSimpArgs false
set_option linter.unusedVariables false
namespace Hm
/-- the key, no longer than a block -/
def kk (kind : Nat) (key : List (BitVec 8)) : List (BitVec 8) := if Sha.bs kind < key.length then Sha.sum kind key else key
def pd (kind : Nat) (key : List (BitVec 8)) (c : BitVec 8) : List (BitVec 8) := (List.range (Sha.bs kind)).map fun i => gb (kk kind key) i ^^^ c
def mac (kind : Nat) (key text : List (BitVec 8)) : List (BitVec 8) := Sha.sum kind (pd kind key 92#8 ++ Sha.sum kind (pd kind key 54#8 ++ text))
theorem kk_len (kind : Nat) (key : List (BitVec 8)) : (kk kind key).length ≤ Sha.bs kind := by
  unfold kk
  split
  · rw [Sha.length_sum]; exact Sha.ol_bs kind
  · omega
theorem pd_len (kind : Nat) (key : List (BitVec 8)) (c : BitVec 8) : (pd kind key c).length = Sha.bs kind := by simp [pd]
theorem gb_pd (kind : Nat) (key : List (BitVec 8)) (c : BitVec 8) (i : Nat) (h : i < Sha.bs kind) : gb (pd kind key c) i = gb (kk kind key) i ^^^ c := gb_map _ _ _ h
theorem mac_len (kind : Nat) (key text : List (BitVec 8)) : (mac kind key text).length = Sha.ol kind := Sha.length_sum _ _
end Hm
end Go.Proofs.YtepogbfkmflooaaDoor
namespace Go.Proofs.YtepogbfkmflooaaDoor
open Go.RowKit
set_option linter.unusedSimpArgs false
set_option linter.unusedVariables false
section
variable {P : Program} {w : World} {n : Nat} {f : Nat → Value}
variable {ty : TypeId} {x y : Operand} {v : Value} {t e : TypeId} {F : Nat → Value} {a : Int}
theorem y_idxa {m i : Nat} {k : IntKind} (hx : Ev n f x (.agg (arr m F))) (hy : Ev n f y (.int k a)) (ht : P.underlying t = some (.array m e)) (hu : (P.underlying e).map scal = some true) (hs : (P.info? e).map (·.size) = some 1) (hi : a = (i : Int)) (hlt : i < m) : Yields P n f (.index t x y) ty w (F i) := by
  have h1 : (fr n f).eval x = .agg (arr m F) := hx
  have h2 : (fr n f).eval y = .int k a := hy
  subst hi
  obtain ⟨d, h3, h4⟩ := Option.map_eq_some_iff.1 hu
  have hag : (isAgg e).run P w = .ok false w := by
    unfold isAgg
    rw [Sem.run_bind, run_underlying h3 w]
    cases d <;> simp_all [scal]
  obtain ⟨inf, h5, h6⟩ := Option.map_eq_some_iff.1 hs
  have hsz : (sizeOf e).run P w = .ok 1 w := by
    simp [sizeOf, typeInfo, Sem.run_bind, h5, h6]
  unfold Yields execOp
  simp only [h1, h2]
  have hlt' : (0 : Int) ≤ (i : Int) ∧ (i : Int) < (m : Int) := ⟨by omega, by omega⟩
  simp [Instr.index, asIntOf, Sem.run_bind, run_underlying ht, hlt, hsz, part, hag, arr_at _ _ _ hlt, go_sem]
end
end Go.Proofs.YtepogbfkmflooaaDoor
