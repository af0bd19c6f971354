/-
  Texts joined with counters, plainly. Conditions as each says.
-/
import Derived.Test.YtdmbfimjbmfbaaaGreatOct
import Derived.Test.YtdmbfimjbmfbaaaGreatWrapPlain
namespace Go.Proofs.YtdmbfimjbmfbaaaGreat
namespace Ct
/-- the counter that grew -/
def nx (s : List (BitVec 8)) (d n : Nat) : List (BitVec 8) := s.take (16 - d) ++ Oct.add (s.drop (16 - d)) n
theorem length_nx (s : List (BitVec 8)) (d n : Nat) (hs : s.length = 16) : (nx s d n).length = 16 := by
  unfold nx
  rw [List.length_append, Oct.length_add, List.length_take, List.length_drop]; omega
theorem nx_add (s : List (BitVec 8)) (d a b : Nat) (hs : s.length = 16) : nx (nx s d a) d b = nx s d (a + b) := by
  have hl : (s.take (16 - d)).length = 16 - d := by rw [List.length_take]; omega
  unfold nx
  rw [List.take_append_of_le_length (by omega), List.take_of_length_le (by omega), List.drop_append, hl, Nat.sub_self, List.drop_zero, List.drop_eq_nil_of_le (by omega), List.nil_append, Oct.add_two]
theorem nx_zero (s : List (BitVec 8)) (d : Nat) : nx s d 0 = s := by
  unfold nx
  rw [Oct.add_zero, List.take_append_drop]
/-- what is joined with -/
def ks (key s : List (BitVec 8)) (d j : Nat) : BitVec 8 := gb (Aes.enc (Aes.words key) (nx s d (j / 16))) (j % 16)
def stream (key s : List (BitVec 8)) (d n : Nat) : List (BitVec 8) := (List.range n).map (ks key s d)
theorem length_stream (key s : List (BitVec 8)) (d n : Nat) : (stream key s d n).length = n := by unfold stream; rw [List.length_map, List.length_range]
theorem gb_stream (key s : List (BitVec 8)) (d n j : Nat) (h : j < n) : gb (stream key s d n) j = ks key s d j := by
  unfold stream
  rw [gb_map _ _ _ h]
def x (key s : List (BitVec 8)) (d : Nat) (t : List (BitVec 8)) : List (BitVec 8) := Oct.xor t (stream key s d t.length)
theorem length_x (key s : List (BitVec 8)) (d : Nat) (t : List (BitVec 8)) : (x key s d t).length = t.length := by
  unfold x; rw [Oct.length_xor, length_stream, Nat.min_self]
theorem gb_x (key s : List (BitVec 8)) (d : Nat) (t : List (BitVec 8)) (j : Nat) (h : j < t.length) : gb (x key s d t) j = gb t j ^^^ ks key s d j := by
  unfold x; rw [Oct.gb_xor _ _ _ (by rw [length_stream]; omega), gb_stream _ _ _ _ _ h]
theorem x_x (key s : List (BitVec 8)) (d : Nat) (t : List (BitVec 8)) : x key s d (x key s d t) = t := by
  unfold x
  rw [Oct.length_xor, length_stream, Nat.min_self]
  exact Oct.xor_xor _ _ (by rw [length_stream]; exact Nat.le_refl _)
def wk : List (BitVec 8) := [48#8, 49#8, 50#8, 51#8, 52#8, 53#8, 54#8, 55#8, 56#8, 57#8, 97#8, 98#8, 99#8, 100#8, 101#8, 102#8]
def wt : List (BitVec 8) := [97#8, 98#8, 99#8]
end Ct
end Go.Proofs.YtdmbfimjbmfbaaaGreat
