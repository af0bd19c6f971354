/-
  Digests with a key, plainly. No conditions.
-/
import Derived.Test.YtieepglpejlkoaaDoorShaUse
namespace Go.Proofs.YtieepglpejlkoaaDoor
open Go.RowKit
set_option linter.unusedSimpArgs false
set_option linter.unusedVariables false
namespace Hm
/-- the key, no longer than a block -/
def kk (kind : Nat) (key : List (BitVec 8)) : List (BitVec 8) := if Sha.bs kind < key.length then Sha.sum kind key else key
def pd (kind : Nat) (key : List (BitVec 8)) (c : BitVec 8) : List (BitVec 8) := (List.range (Sha.bs kind)).map fun i => gb (kk kind key) i ^^^ c
def mac (kind : Nat) (key text : List (BitVec 8)) : List (BitVec 8) := Sha.sum kind (pd kind key 92#8 ++ Sha.sum kind (pd kind key 54#8 ++ text))
theorem kk_len (kind : Nat) (key : List (BitVec 8)) : (kk kind key).length ≤ Sha.bs kind := by
  unfold kk
  split
  · rw [Sha.length_sum]; exact Sha.ol_bs kind
  · omega
theorem pd_len (kind : Nat) (key : List (BitVec 8)) (c : BitVec 8) : (pd kind key c).length = Sha.bs kind := by simp [pd]
theorem gb_pd (kind : Nat) (key : List (BitVec 8)) (c : BitVec 8) (i : Nat) (h : i < Sha.bs kind) : gb (pd kind key c) i = gb (kk kind key) i ^^^ c := gb_map _ _ _ h
theorem mac_len (kind : Nat) (key text : List (BitVec 8)) : (mac kind key text).length = Sha.ol kind := Sha.length_sum _ _
/-- keys that count the same -/
theorem mac_congr (kind : Nat) (k k' text : List (BitVec 8)) (h : ∀ i, i < Sha.bs kind → gb (kk kind k) i = gb (kk kind k') i) : mac kind k text = mac kind k' text := by
  have e : ∀ c, pd kind k c = pd kind k' c := fun c => List.map_congr_left (fun i hi => by rw [h i (List.mem_range.1 hi)])
  unfold mac
  rw [e, e]
theorem kk_sum (kind : Nat) (key : List (BitVec 8)) (h : Sha.bs kind < key.length) : kk kind (Sha.sum kind key) = kk kind key := by
  unfold kk
  rw [if_pos h, if_neg]
  rw [Sha.length_sum]; have := Sha.ol_bs kind; omega
theorem kk_zero (kind : Nat) (key : List (BitVec 8)) (h : key.length < Sha.bs kind) (i : Nat) : gb (kk kind (key ++ [0#8])) i = gb (kk kind key) i := by
  unfold kk
  rw [if_neg (by rw [List.length_append]; simp; omega), if_neg (by omega), gb_append]
  split
  · rfl
  · rename_i h2
    rw [gb_out key i (by omega)]
    by_cases e : i - key.length = 0
    · rw [e]; rfl
    · exact gb_out _ _ (by simp; omega)
def fox : List (BitVec 8) := [84#8, 104#8, 101#8, 32#8, 113#8, 117#8, 105#8, 99#8, 107#8, 32#8, 98#8, 114#8, 111#8, 119#8, 110#8, 32#8, 102#8, 111#8, 120#8, 32#8, 106#8, 117#8, 109#8, 112#8, 115#8, 32#8, 111#8, 118#8, 101#8, 114#8, 32#8, 116#8, 104#8, 101#8, 32#8, 108#8, 97#8, 122#8, 121#8, 32#8, 100#8, 111#8, 103#8]
def akey : List (BitVec 8) := [107#8, 101#8, 121#8]
theorem fox_mac : ((mac 256 akey fox).take 4) = ([247#8, 188#8, 131#8, 244#8]) := by decide +kernel
end Hm
end Go.Proofs.YtieepglpejlkoaaDoor
