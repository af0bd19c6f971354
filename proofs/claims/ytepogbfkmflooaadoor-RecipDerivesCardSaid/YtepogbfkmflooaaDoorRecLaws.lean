/-
  The laws of recip: names, fillings, lockings. No conditions. Structs of texts, numbers and bytes as arguments. No conditions.
-/
import Derived.Test.YtepogbfkmflooaaDoorRows
import Derived.Test.YtepogbfkmflooaaDoorRecC
import Derived.Test.YtepogbfkmflooaaDoorGenSh
import Derived.ProofKit
import Derived.Test.YtepogbfkmflooaaDoorPbPlain
import Derived.ChangeArms
namespace Go.Proofs.YtepogbfkmflooaaDoor
open Go.RowKit
set_option linter.unusedSimpArgs false
set_option linter.unusedVariables false
set_option maxRecDepth 100000
set_option maxHeartbeats 1000000
namespace RecLawsT
theorem mixed : Tryd.prog.follows .mixedOrders = true := by kernel_rfl
end RecLawsT
theorem lockBack (key vi : List (BitVec 8)) (hok : Aes.okKey key.length) (hiv : vi.length = 16) (t f : List (BitVec 8)) (h3 : 3 ≤ t.length) (h255 : t.length ≤ 255) (hf : f.length = Rc.fl t.length) (w0 : World) : Calls Tryd.prog 18 #[.string (str key), .string (str vi), .string (str (Rc.lock key vi t f))] w0 fun e w' => e = .returned (.tuple #[.string (str t), .int .i64 0]) ∧ Below w0.heap.size w0 w' := by
  obtain ⟨h1, h2, h4⟩ := Rc.pre_mod t f h3 h255 hf
  have hl := Rc.lock_len key vi t f
  have hpl := Rc.pre_len t f
  have ho := Rc.opn_lock key vi t f hok hiv h3 h255 hf
  have hk := Rc.pre_kn t f h255
  have h := unlock_y key vi hok hiv (Rc.lock key vi t f) ((Rc.lock key vi t f).length - 16) om om om om (by rw [ho, hk]; exact h3) (by rw [ho, hk]; exact h255) (by rw [ho, hk]; omega) (by rw [ho]; exact Rc.pre_AB t f h3) w0
  rw [ho, hk, Rc.pre_text] at h
  exact h

theorem recWakes_c  (w0 : World) : Calls Tryd.prog 8 #[] w0 fun e w' => e = .returned (.bool true) ∧ Below w0.heap.size w0 w' := by
 refine enter (n := 50) Tryd.func8 rfl rfl rfl ?_
 have hk : Below w0.heap.size w0 w0 := Below.refl _ _
 refine sr (w_as Ev.c (nt (sr (w_as (evc (.string (str Cb.wk))) (nt (sr (w_call (Tryd.func16) kr rfl (m1 Ev.c) (fill_y 16 (by decide) (by decide) w0) ?_)))))))
 rintro _ w1 ⟨rfl, hb2⟩
 refine ⟨_, rfl, ?_⟩
 replace hk := thenB hk hb2
 refine w_mv (ex (.tuple #[.int .i64 (((Rc.fl 16) : Nat) : Int), .int .i64 0])) (w_val ye (w_val ye (w_as ei (w_as ei (nt (sr (w_mv es (w_mv es (w_mv es (w_call (Tryd.func17) kr rfl (m4 es es es (evc (.string (str Rc.wf)))) (lock_y Cb.wk Cb.wk (Or.inl rfl) rfl Cb.wk Rc.wf (by decide) (by decide) rfl w1) ?_))))))))))
 rintro _ w3 ⟨rfl, hb4⟩
 refine ⟨_, rfl, ?_⟩
 replace hk := thenB hk hb4
 refine w_mv (ex (.tuple #[.string (str (Rc.lock Cb.wk Cb.wk Cb.wk Rc.wf)), .int .i64 0])) (w_val ye (w_val ye (w_as es (w_as ei (nt (sr (w_mv es (w_mv es (w_mv es (w_call (Tryd.func18) kr rfl (m3 es es es) (lockBack Cb.wk Cb.wk (Or.inl rfl) rfl Cb.wk Rc.wf (by decide) (by decide) rfl w3) ?_))))))))))
 rintro _ w5 ⟨rfl, hb6⟩
 refine ⟨_, rfl, ?_⟩
 replace hk := thenB hk hb6
 refine w_mv (ex (.tuple #[.string (str Cb.wk), .int .i64 0])) (w_val ye (w_val ye (w_as es (w_as ei (nt (sr (w_mv ei (w_val (y_bin ei Ev.c b_eql) (w_mv eb (w_val_g (v := .int .i64 (((Rc.fl 16) : Nat) : Int)) (wy rfl rfl eb) (y_mv ei) (w_val_g (wy rfl rfl eb) (y_bin ei Ev.c b_eql) (w_val (y_pick_t eb eb) (w_mv eb ?_)))))))))))))
 have hc7 : (((Rc.fl 16) : Nat) : Int) = 12 := by rfl
 refine w_val_g (v := .int .i64 0) (wy rfl rfl (eb (dt hc7))) (y_mv ei) (w_val_g (wy rfl rfl (eb (dt hc7))) (y_bin ei Ev.c b_eql) (w_val (y_pick_t (eb (dt hc7)) eb) (w_mv eb (w_val_g (v := .string (str (Rc.lock Cb.wk Cb.wk Cb.wk Rc.wf))) (wy rfl rfl eb) (y_mv es) (w_val_g (wy rfl rfl eb) (y_len es Tryd.underlying9) (w_val_g (wy rfl rfl eb) (y_bin ei Ev.c b_eql) (w_val (y_pick_t eb eb) (w_mv eb ?_))))))))
 have hc8 : (((Rc.lock Cb.wk Cb.wk Cb.wk Rc.wf).length : Nat) : Int) = 32 := by rw [Rc.lock_len]; rfl
 refine w_val_g (v := .int .i64 0) (wy rfl rfl (eb (dt hc8))) (y_mv ei) (w_val_g (wy rfl rfl (eb (dt hc8))) (y_bin ei Ev.c b_eql) (w_val (y_pick_t (eb (dt hc8)) eb) (w_mv eb (w_val_g (v := .string (str Cb.wk)) (wy rfl rfl eb) (y_mv es) (w_val_g (v := .string (str Cb.wk)) (wy rfl rfl eb) (y_mv es) (w_val_g (wy rfl rfl eb) (y_bin es es b_eqs_same) (w_val (y_pick_t eb eb) (w_as eb (nt (wp_ret (fin_ret1 rfl eb ?_)))))))))))
 exact ⟨rfl, hk⟩
end Go.Proofs.YtepogbfkmflooaaDoor
namespace Go.Proofs.YtepogbfkmflooaaDoor
open Go.RowKit Go.WideShapes Go.ChangeShapes
theorem sized_at {H : Type} {P : Program} {ts : List TypeId} {ds : List (DataW H)} (h : (DataW.weightsEach P ts ds).all (· ≤ reachBytes) = true) {j n : Nat} {t : TypeId} {d : DataW H} (ht : ts[j]? = some t) (hd : ds[j]? = some d) (hn : n ∈ d.weights P t) : n ≤ reachBytes := by
  have := List.all_eq_true.1 h n (DataW.weights_mem_each ht hd n hn)
  simpa using this
section
variable {H : Type} {enc : TypeId × Value → H} {P : Program} {w : World} {base : Nat} {sp : Nat → Bool} {held : Bool}
theorem open_sssi {t : TypeId} {f0 f1 f2 f3 : Field} {v : Value} {d : DataW H} {ps : List MemPlace} (he : P.underlying t = some (.struct #[f0, f1, f2, f3])) (ce : P.cellsOf t = 4) (ho : f0.offset = 0 ∧ f1.offset = 1 ∧ f2.offset = 2 ∧ f3.offset = 3) (hc : P.cellsOf f0.type = 1 ∧ P.cellsOf f1.type = 1 ∧ P.cellsOf f2.type = 1 ∧ P.cellsOf f3.type = 1)
    (u0 : P.underlying f0.type = some .string) (u1 : P.underlying f1.type = some .string) (u2 : P.underlying f2.type = some .string) (u3 : P.underlying f3.type = some (.int .i64)) (hd : DataW.Trod enc P w base sp held t v d ps) :
    ∃ (a0 : ByteArray) (a1 : ByteArray) (a2 : ByteArray) (a3 : Int), v = .agg #[.string a0, .string a1, .string a2, .int .i64 a3] ∧ d = .agg [.lit (.string a0.data.toList), .lit (.string a1.data.toList), .lit (.string a2.data.toList), .lit (.int .i64 a3)] ∧ ps = [] ∧ a0.data.toList.length ∈ d.weights P t ∧ a1.data.toList.length ∈ d.weights P t ∧ a2.data.toList.length ∈ d.weights P t ∧ (Lit.int .i64 a3).wf = true := by
  obtain ⟨fuel, hf⟩ := hd
  obtain ⟨xs, k, _, hx, hl, hxl, hfs⟩ := DataW.trod_struct he hf
  rw [ce] at hl
  obtain ⟨o0, o1, o2, o3⟩ := ho
  obtain ⟨c0, c1, c2, c3⟩ := hc
  obtain ⟨cs, hcs⟩ : ∃ cs, v.cells.toList = cs := ⟨_, rfl⟩
  rw [hcs] at hl hfs
  match xs, hxl, cs, hl with
  | [y0, y1, y2, y3], _, [v0, v1, v2, v3], _ =>
    have g0 := hfs 0 f0 rfl
    have g1 := hfs 1 f1 rfl
    have g2 := hfs 2 f2 rfl
    have g3 := hfs 3 f3 rfl
    simp [o0, o1, o2, o3, c0, c1, c2, c3] at g0 g1 g2 g3
    obtain ⟨a0, e0, q0, z0⟩ := DataW.trod_string u0 g0
    obtain ⟨a1, e1, q1, z1⟩ := DataW.trod_string u1 g1
    obtain ⟨a2, e2, q2, z2⟩ := DataW.trod_string u2 g2
    obtain ⟨a3, e3, q3, z3⟩ := DataW.trod_int u3 g3
    simp only [List.cons.injEq, and_true] at e0 e1 e2 e3
    subst e0 e1 e2 e3 q0 q1 q2 q3
    simp only [Prod.mk.injEq] at hx
    obtain ⟨hx1, hx2⟩ := hx
    subst hx1
    refine ⟨a0, a1, a2, a3, ?_, rfl, hx2, by simp [DataW.weights, DataW.weightsEach, he], by simp [DataW.weights, DataW.weightsEach, he], by simp [DataW.weights, DataW.weightsEach, he], z3⟩
    cases v with
    | agg a =>
      have ha : a.toList = [.string a0, .string a1, .string a2, .int .i64 a3] := hcs
      rw [show a = #[.string a0, .string a1, .string a2, .int .i64 a3] from by rw [← Array.toList_inj, ha]]
    | _ => simp [Value.cells] at hcs
end
end Go.Proofs.YtepogbfkmflooaaDoor
