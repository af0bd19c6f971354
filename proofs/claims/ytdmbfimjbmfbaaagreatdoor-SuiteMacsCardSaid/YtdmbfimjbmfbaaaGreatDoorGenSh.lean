/-
  Steps of a walk, part 7: shorter words for the steps. No conditions. AES: the substitution box that the program makes. No conditions.
-/
import Derived.Test.YtdmbfimjbmfbaaaGreatDoorGenMore
import Derived.Test.YtdmbfimjbmfbaaaGreatDoorAesLeaf
namespace Go.Proofs.YtdmbfimjbmfbaaaGreatDoor
open Go.RowKit
set_option linter.unusedSimpArgs false
set_option linter.unusedVariables false
theorem om {p : Prop} (h : p := by omega) : p := h
theorem kr {p : Prop} (h : p := by kernel_rfl) : p := h
theorem ro {p : Prop} (h : p := by first | rfl | omega) : p := h
theorem dv {p : Prop} (h : p := by first | with_reducible rfl | (with_reducible congr 1 <;> omega) | (with_reducible congr 2 <;> omega) | (with_reducible congr 3 <;> omega) | rfl) : p := h
theorem ng {α : Sort _} {c : Prop} [Decidable c] {a b d : α} (h : b = d) (hc : ¬ c := by omega) : (if c then a else b) = d := (if_neg hc).trans h
theorem pn {α : Sort _} {c : Prop} [Decidable c] {a b : α} (hc : c := by omega) : (if c then a else b) = a := if_pos hc
theorem pz {α : Sort _} {c : Prop} [Decidable c] {a b x : α} (hc : c := by omega) (h : a = x := by first | with_reducible rfl | (with_reducible congr 1 <;> omega) | (with_reducible congr 2 <;> omega) | (with_reducible congr 3 <;> omega) | rfl) : (if c then a else b) = x := (if_pos hc).trans h
section
variable {P : Program} {ops : Array Oper} {Q : Exit → Act → World → Prop} {w w' : World} {rest : List Oper} {n : Nat} {f : Nat → Value}
variable {ty : TypeId} {x y z : Operand} {v vx vy vz : Value} {t e : TypeId} {F G : Nat → Value}
theorem ei {k : Nat} {a : Int} (h : f k = .int .i64 a := by exact rfl) (ht : Nat.blt k n = true := by exact rfl) : Ev n f (.tmp k) (.int .i64 a) := Ev.t h ht
theorem es {k : Nat} {a : List (BitVec 8)} (h : f k = .string (str a) := by exact rfl) (ht : Nat.blt k n = true := by exact rfl) : Ev n f (.tmp k) (.string (str a)) := Ev.t h ht
theorem eb {k : Nat} {a : Bool} (h : f k = .bool a := by exact rfl) (ht : Nat.blt k n = true := by exact rfl) : Ev n f (.tmp k) (.bool a) := Ev.t h ht
theorem e8 {k : Nat} {a : BitVec 8} (h : f k = U8 a := by exact rfl) (ht : Nat.blt k n = true := by exact rfl) : Ev n f (.tmp k) (U8 a) := Ev.t h ht
theorem e3 {k : Nat} {a : BitVec 32} (h : f k = U32 a := by exact rfl) (ht : Nat.blt k n = true := by exact rfl) : Ev n f (.tmp k) (U32 a) := Ev.t h ht
theorem e6 {k : Nat} {a : BitVec 64} (h : f k = U64 a := by exact rfl) (ht : Nat.blt k n = true := by exact rfl) : Ev n f (.tmp k) (U64 a) := Ev.t h ht
theorem el {k : Nat} {a b c d : Nat} (h : f k = .slice (some ⟨a, b, none⟩) c d := by exact rfl) (ht : Nat.blt k n = true := by exact rfl) : Ev n f (.tmp k) (.slice (some ⟨a, b, none⟩) c d) := Ev.t h ht
theorem ea {k : Nat} {a : Nat} {b : Nat → Value} (h : f k = .agg (arr a b) := by exact rfl) (ht : Nat.blt k n = true := by exact rfl) : Ev n f (.tmp k) (.agg (arr a b)) := Ev.t h ht
theorem ex (v : Value) {k : Nat} (h : f k = v := by exact rfl) (ht : Nat.blt k n = true := by exact rfl) : Ev n f (.tmp k) v := Ev.t h ht
theorem ye {k i : Nat} {vs : Array Value} {v : Value} (h : f k = .tuple vs := by exact rfl) (hv : vs[i]? = some v := by exact rfl) (ht : Nat.blt k n = true := by exact rfl) : Yields P n f (.extract (.tmp k) i) ty w v := y_ext (Ev.t h ht) hv
theorem dt {p : Prop} [Decidable p] (h : p) : Value.bool (decide p) = .bool true := by rw [decide_eq_true h]
theorem df {p : Prop} [Decidable p] (h : ¬ p) : Value.bool (decide p) = .bool false := by rw [decide_eq_false h]
theorem wy {o : Oper} {j d : Nat} {b : Bool} (hg : o.guard = some (j, b)) (hj : (ops[j]?).bind (·.dst) = some d) (hv : Ev n f (.tmp d) (.bool b)) (hd : Nat.blt d n = true := by exact rfl) : Region.wanted o (yielded ops (fr n f).tmps) = true := want_yes hg hj hv hd
theorem wn {o : Oper} {j d : Nat} {b : Bool} (hg : o.guard = some (j, b)) (hj : (ops[j]?).bind (·.dst) = some d) (hv : Ev n f (.tmp d) (.bool (!b))) (hd : Nat.blt d n = true := by exact rfl) : Region.wanted o (yielded ops (fr n f).tmps) = false := want_no hg hj hv hd
theorem wu {o : Oper} {j d : Nat} {b : Bool} (hg : o.guard = some (j, b)) (hj : (ops[j]?).bind (·.dst) = some d) (hv : Ev n f (.tmp d) undef) (hd : Nat.blt d n = true := by exact rfl) : Region.wanted o (yielded ops (fr n f).tmps) = false := want_un hg hj hv hd
theorem Row.nb {w : World} {b g t m : Nat} {F : Nat → Value} (r : Row w g t m F) (h : b = w.heap.size) : g ≠ b := by have := r.lt; omega
theorem gb_ {b i j : Nat} (h : i ≤ j) (e : b = j) : i ≤ b := by omega
theorem ti {a : Int} {x c : Value} (h : x = .int .i64 a := by exact rfl) (h2 : .int .i64 a = c := by first | with_reducible rfl | (with_reducible congr 1 <;> omega) | (with_reducible congr 2 <;> omega) | (with_reducible congr 3 <;> omega) | rfl) : x = c := h.trans h2
theorem t8 {a : BitVec 8} {x c : Value} (h : x = U8 a := by exact rfl) (h2 : U8 a = c := by first | with_reducible rfl | (with_reducible congr 1 <;> omega) | (with_reducible congr 2 <;> omega) | (with_reducible congr 3 <;> omega) | rfl) : x = c := h.trans h2
theorem t3 {a : BitVec 32} {x c : Value} (h : x = U32 a := by exact rfl) (h2 : U32 a = c := by first | with_reducible rfl | (with_reducible congr 1 <;> omega) | (with_reducible congr 2 <;> omega) | (with_reducible congr 3 <;> omega) | rfl) : x = c := h.trans h2
end
section
variable {P : Program} {ops : Array Oper} {Q : Exit → Act → World → Prop} {w w' : World} {n : Nat} {f : Nat → Value} {ty : TypeId} {S : World → Prop} {D : Nat → Bool} {k : Nat} {listed : Array Bool}
theorem dp (i : Nat) {op : Op} {ty : TypeId} {d : Nat} {p : String} {aft : Array Edge} {v : Value} (hi : ops[i]? = some ⟨some d, op, ty, p, aft, none⟩) (hy : ∀ w, Yields P n f op ty w v) (h : anyD P ops Q S D k (listed.setIfInBounds i true) (fr n (up f d v)) w) 
    (hs : Region.noSelect ops = true := by kernel_rfl) (hf : Region.free .any ops listed i = true := by kernel_rfl) (hr : (Region.ready .any ops listed).contains i = true := by kernel_rfl) (hD : closedB ops listed = true := by kernel_rfl) (hQ : ∀ c a w, Q (.panic c) (a.put (some d) v) w → Q (.panic c) a w := by exact fun _ _ _ h => h) :
    anyD P ops Q S D (k + 1) listed (fr n f) w := d_pure i hi hs hf hr hD hQ hy h
end
end Go.Proofs.YtdmbfimjbmfbaaaGreatDoor
namespace Go.Proofs.YtdmbfimjbmfbaaaGreatDoor
open Go.RowKit
set_option linter.unusedSimpArgs false
set_option linter.unusedVariables false
theorem Tryz.boxAgg : (Tryz.prog.underlying 81).map isAggD = some true := by kernel_rfl
theorem Tryz.boxSize : (Tryz.prog.info? 81).map (·.size) = some 256 := by kernel_rfl
theorem Tryz.zeros256 : Tryz.zeroCells81 = Array.replicate 256 (.int .u8 0) := by kernel_rfl
theorem Aes.gb_zeros (i : Nat) (h : i < 256) : gb (Aes.tk 0) i = 0#8 := by
  show gb (List.replicate 256 0#8) i = 0#8
  unfold gb
  rw [List.getD_eq_getElem?_getD, List.getElem?_replicate, if_pos h]
  rfl
set_option maxHeartbeats 1000000 in
theorem box_c (w : World) :
    Calls Tryz.prog 42 #[] w fun e w' => e = .returned (.agg (arr 256 fun j => U8 (Aes.sb j))) ∧ Below w.heap.size w w' := by
  go_enter Tryz.func42, Tryz.ntmps42
  go_wp2
  go_loopg [1, 2] 255 (fun g p q wr => ∃ k : Nat, k < 255 ∧ g = 255 - k ∧ p = U8 (Aes.pk k) ∧ q = U8 (Aes.qk k) ∧ Row wr w.heap.size 81 256 (fun j => U8 (gb (Aes.tk k) j)) ∧ Below w.heap.size w wr)
  case atStart =>
    refine ⟨0, by omega, rfl, rfl, rfl, ?_, (Below.refl _ _).alloc (Nat.le_refl _) _⟩
    exact Row.fresh (by rw [Tryz.zeros256]; simp) (fun i hi => by rw [Tryz.zeros256]; simp [hi]; exact congrArg (fun x => U8 x) (Aes.gb_zeros i hi).symm)
  case round =>
    obtain ⟨k, hk, rfl, rfl, rfl, hrow, hb⟩ := hrel
    have hi := idx_lt (Aes.pk k)
    have hc := hrow.cell (i := idx (Aes.pk k)) hi
    have hz := hrow.frozen (i := idx (Aes.pk k)) hi
    have hnext : ∀ n : Nat, Row (((wr.drewN n)).setCell ⟨w.heap.size, idx (Aes.pk k), none⟩ (U8 (Aes.val (Aes.qk k)))) w.heap.size 81 256 (fun j => U8 (gb (Aes.tk (k + 1)) j)) := fun n =>
      ((hrow.drewN n).set_ _ _).congr (fun i h => by
        show (if i = (Aes.pk k).toNat then _ else _) = U8 (gb ((Aes.tk k).set (Aes.pk k).toNat (Aes.val (Aes.qk k))) i)
        rw [Aes.gb_set _ _ _ _ (by rw [Aes.length_tk]; exact h)]
        split <;> rfl)
    by_cases h254 : k = 254
    · have hp1 : (Aes.pk k ^^^ Aes.xt (Aes.pk k) == 1#8) = true := by
        have := Aes.pk_one k hk; rw [decide_eq_true h254] at this; exact this
      have hc0 : ∀ (n : Nat) (v : Value), ((wr.drewN n).setCell ⟨w.heap.size, idx (Aes.pk k), none⟩ v).cell? ⟨w.heap.size, 0, none⟩ = some (if 0 = idx (Aes.pk k) then v else U8 (gb (Aes.tk k) 0)) := fun n v => ((hrow.drewN n).set_ _ v).cell (by omega)
      have hz0 : ∀ (n : Nat) (v : Value), ((wr.drewN n).setCell ⟨w.heap.size, idx (Aes.pk k), none⟩ v).frozen? ⟨w.heap.size, 0, none⟩ = false := fun n v => ((hrow.drewN n).set_ _ v).frozen (by omega)
      have hfin : ∀ n : Nat, Row ((((wr.drewN n)).setCell ⟨w.heap.size, idx (Aes.pk k), none⟩ (U8 (Aes.val (Aes.qk k)))).setCell ⟨w.heap.size, 0, none⟩ (.int .u8 99)) w.heap.size 81 256 (fun j => U8 (Aes.sb j)) := fun n =>
        ((hnext n).set_ 0 (.int .u8 99)).congr (fun i h => by
          rw [← Aes.gb_sb i h, Aes.gb_set _ _ _ _ (by rw [Aes.length_tk]; exact h), h254]
          split <;> rfl)
      have hcell : ∀ n : Nat, ∀ j, j < 256 → ((((wr.drewN n)).setCell ⟨w.heap.size, idx (Aes.pk k), none⟩ (U8 (Aes.val (Aes.qk k)))).setCell ⟨w.heap.size, 0, none⟩ (.int .u8 99)).cell? ⟨w.heap.size, 0 + j, none⟩ = some (U8 (Aes.sb j)) := fun n j hj => by rw [Nat.zero_add]; exact (hfin n).cell hj
      have H0 : Hid (k = 254) := h254
      have H1 : Hid _ := hfin
      have H2 : Hid _ := hcell
      clear hfin hcell hnext hrow h254
      go_wp2_with (first | (go_at_call 57; refine (turned_c _ _ _ (by decide) (by decide)).mono ?_; rintro e w' ⟨rfl, nk, rfl⟩) | (go_at_call 58; refine (double_c _ _).mono ?_; rintro e w' ⟨rfl, rfl⟩) | (go_at_call 59; refine (mul_c _ 246#8 _).mono ?_; rintro e w' ⟨rfl, rfl⟩) | (with_reducible show wpList _ _ _ (Oper.mk _ (Op.load 81 (.tmp 0)) _ _ _ _ :: _) _ _; refine wpList_load_arr rfl 81 (.tmp 0) rfl w.heap.size 0 256 rfl (fun j => U8 (Aes.sb j)) Tryz.boxAgg Tryz.boxSize (H2.out _) ?_; have tok : True := trivial) | (with_reducible show wpList _ _ _ (Oper.mk _ (Op.store 81 (.tmp 0) (.tmp 28)) _ _ _ _ :: _) _ _; refine wpList_store_arr rfl rfl 81 (.tmp 0) (.tmp 28) rfl w.heap.size 0 256 rfl (fun j => U8 (Aes.sb j)) rfl Tryz.boxSize (fun j _ => U8.oneCell _) _ 256 _ (H1.out _) (by decide) ?_; intro w9 hw9 hg9 hs9))
      refine bodyPost_ret (v := .agg (arr 256 fun j => U8 (Aes.sb j))) (results_arr rfl _ _ w.heap.size 256 _ rfl Tryz.boxAgg Tryz.boxSize (fun j hj => ?_)) rfl ⟨rfl, ?_⟩
      · rw [hw9.cell hj, if_pos (by omega)]; rfl
      · exact (((below_drewN hb _).setCell (Nat.le_refl _) _).setCell (Nat.le_refl _) _).grown hg9 (by simp; exact hb.size) (fun k hk => by cases hk; exact Nat.le_refl _)
    · have hp1 : (Aes.pk k ^^^ Aes.xt (Aes.pk k) == 1#8) = false := by
        have := Aes.pk_one k hk; rw [decide_eq_false h254] at this; exact this
      go_wp2_with (first | (go_at_call 57; refine (turned_c _ _ _ (by decide) (by decide)).mono ?_; rintro e w' ⟨rfl, nk, rfl⟩) | (go_at_call 58; refine (double_c _ _).mono ?_; rintro e w' ⟨rfl, rfl⟩) | (go_at_call 59; refine (mul_c _ 246#8 _).mono ?_; rintro e w' ⟨rfl, rfl⟩))
      go_roundg (255 - (k + 1))
      case measure => omega
      case rel =>
        exact ⟨k + 1, by omega, rfl, rfl, rfl, hnext _, (below_drewN hb _).setCell (Nat.le_refl _) _⟩
end Go.Proofs.YtdmbfimjbmfbaaaGreatDoor
