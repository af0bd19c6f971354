/-
  Rows of ciphers: the program's, the reference's. Conditions as each says.
-/
import Derived.Test.YtdmbfimjbmfbaaaGreatRows
import Derived.Test.YtdmbfimjbmfbaaaGreatSuPlain
import Derived.Test.YtdmbfimjbmfbaaaGreatGenMix
import Derived.Test.YtdmbfimjbmfbaaaGreatGenSl
import Derived.Test.YtdmbfimjbmfbaaaGreatGenMore
import Derived.Test.YtdmbfimjbmfbaaaGreatGenSh
import Derived.ProofKit
namespace Go.Proofs.YtdmbfimjbmfbaaaGreat
open Go.RowKit
set_option linter.unusedSimpArgs false
set_option linter.unusedVariables false
set_option maxRecDepth 100000
set_option maxHeartbeats 1000000
namespace SuAT
theorem mixed : Tryz.prog.follows .mixedOrders = true := by kernel_rfl
theorem ag23 : (Tryz.prog.underlying 23).map isAggD = some true := by rw [Tryz.underlying23]; rfl
theorem ag28 : (Tryz.prog.underlying 28).map isAggD = some true := by rw [Tryz.underlying28]; rfl
theorem fa23_1 (g off : Nat) : ∀ w, (Instr.fieldAt 23 (.pointer (some ⟨g, off, none⟩)) 1).run Tryz.prog w = .ok (.pointer (some ⟨g, off + 1, none⟩)) w := fun w => by kernel_rfl
theorem fa23_2 (g off : Nat) : ∀ w, (Instr.fieldAt 23 (.pointer (some ⟨g, off, none⟩)) 2).run Tryz.prog w = .ok (.pointer (some ⟨g, off + 2, none⟩)) w := fun w => by kernel_rfl
theorem fa28_0 (g off : Nat) : ∀ w, (Instr.fieldAt 28 (.pointer (some ⟨g, off, none⟩)) 0).run Tryz.prog w = .ok (.pointer (some ⟨g, off + 0, none⟩)) w := fun w => by kernel_rfl
theorem sc3 : (Tryz.prog.underlying 3).map scal = some true := by rw [Tryz.underlying3]; rfl
theorem sz23 : (Tryz.prog.info? 23).map (·.size) = some 3 := by kernel_rfl
theorem sz28 : (Tryz.prog.info? 28).map (·.size) = some 5 := by kernel_rfl
theorem sz3 : (Tryz.prog.info? 3).map (·.size) = some 1 := by kernel_rfl
end SuAT
theorem suOf_1  (w0 : World) : Calls Tryz.prog 4 #[.int .i64 1] w0 fun e w' => e = .returned (.tuple #[.agg (arr 3 (fun j => if j < 1 then .int .i64 16 else if j < 2 then .int .i64 12 else .int .i64 16)), .int .i64 0]) ∧ Below w0.heap.size w0 w' := by
 refine enter (n := 76) Tryz.func4 rfl rfl rfl ?_
 have hk : Below w0.heap.size w0 w0 := Below.refl _ _
 refine sr (w_alloc (m := 3) (F := fun j => if j < 1 then .int .i64 0 else if j < 2 then .int .i64 0 else .int .i64 0) kr ?_)
 intro b_2 w1 hbe_b_2 r_b_2 hb2
 have ge_b_2 := gb_ hk.size hbe_b_2
 clear hbe_b_2
 replace hk := thenB hk hb2
 refine w_as Ev.c (nt (sr (w_val (v := .agg (arr 3 (fun j => if j < 1 then .int .i64 0 else if j < 2 then .int .i64 0 else .int .i64 0))) (y_build (vs := #[]) mp0 (fun w => by kernel_rfl)) (w_alloc (m := 3) (F := fun j => if j < 1 then .int .i64 0 else if j < 2 then .int .i64 0 else .int .i64 0) kr ?_))))
 intro b_s w3 hbe_b_s r_b_s hb4
 have ne_b_2_b_s := r_b_2.nb hbe_b_s
 have ge_b_s := gb_ hk.size hbe_b_s
 clear hbe_b_s
 replace r_b_2 := r_b_2.step hb4
 replace hk := thenB hk hb4
 refine w_sta (k := 3) (G := fun j => if j < 1 then .int .i64 0 else if j < 2 then .int .i64 0 else .int .i64 0) (ex (pt b_s 0)) ea oc SuAT.sz23 r_b_s om ?_
 clear r_b_s; intro w5 r_b_s hg6 _
 replace r_b_s := r_b_s.congr (g := fun j => if j < 1 then .int .i64 0 else if j < 2 then .int .i64 0 else .int .i64 0) (fun j hj => by rw [if_pos ⟨Nat.zero_le _, by omega⟩]; first | rfl | (simp only [Nat.sub_zero]))
 replace r_b_2 := r_b_2.stepG hg6 om
 replace hk := thenG hk hg6 om
 refine nt (wp_seq (sr (w_mv ei (nt (wp_block (wp_seq (sr (w_val (y_bin ei Ev.c b_eql) (w_as eb (nt (c_tt eb (wp_skip (then_n (c_tt eb (wp_region_lit (w_mv ei (w_val (y_bin Ev.c ei (b_mul om)) (w_val (y_bin Ev.c ei (b_add om)) (w_val (v := .agg (arr 3 (fun j => if j < 1 then .int .i64 16 else if j < 2 then .int .i64 12 else .int .i64 16))) (y_build (vs := #[(0, .int .i64 16), (1, .int .i64 12), (2, .int .i64 16)]) (mp_cons ei (mp_cons Ev.c (mp_cons Ev.c mp0))) (fun w => by kernel_rfl)) (w_sta (k := 3) (G := fun j => if j < 1 then .int .i64 16 else if j < 2 then .int .i64 12 else .int .i64 16) (ex (pt b_s 0)) ea oc SuAT.sz23 r_b_s om ?_))))))))))))))))))))
 clear r_b_s; intro w7 r_b_s hg8 _
 replace r_b_s := r_b_s.congr (g := fun j => if j < 1 then .int .i64 16 else if j < 2 then .int .i64 12 else .int .i64 16) (fun j hj => by rw [if_pos ⟨Nat.zero_le _, by omega⟩]; first | rfl | (simp only [Nat.sub_zero]))
 replace r_b_2 := r_b_2.stepG hg8 om
 replace hk := thenG hk hg8 om
 refine wpList_nil (inb_n (then_n (sr (w_val (v := .agg (arr 3 (fun j => if j < 1 then .int .i64 16 else if j < 2 then .int .i64 12 else .int .i64 16))) (y_lda (ex (pt b_s 0)) SuAT.ag23 SuAT.sz23 (fun j hj => by rw [Nat.zero_add]; exact (r_b_s.cell om))) (w_sta (k := 3) (G := fun j => if j < 1 then .int .i64 16 else if j < 2 then .int .i64 12 else .int .i64 16) (ex (pt b_2 0)) ea oc SuAT.sz23 r_b_2 om ?_)))))
 clear r_b_2; intro w9 r_b_2 hg10 _
 replace r_b_2 := r_b_2.congr (g := fun j => if j < 1 then .int .i64 16 else if j < 2 then .int .i64 12 else .int .i64 16) (fun j hj => by rw [if_pos ⟨Nat.zero_le _, by omega⟩]; first | rfl | (simp only [Nat.sub_zero]))
 replace r_b_s := r_b_s.stepG hg10 om
 replace hk := thenG hk hg10 om
 refine w_as Ev.c (nt (wp_ret (fin_ct (F := fun j => if j < 1 then .int .i64 16 else if j < 2 then .int .i64 12 else .int .i64 16) rfl (ex (pt b_2 0)) ei SuAT.ag23 SuAT.sz23 r_b_2 om ?_)))
 exact ⟨rfl, hk⟩

theorem suOf_2  (w0 : World) : Calls Tryz.prog 4 #[.int .i64 2] w0 fun e w' => e = .returned (.tuple #[.agg (arr 3 (fun j => if j < 1 then .int .i64 (((Su.ky 1) : Nat) : Int) else if j < 2 then .int .i64 (((Su.iv 1) : Nat) : Int) else .int .i64 (((Su.tg 1) : Nat) : Int))), .int .i64 0]) ∧ Below w0.heap.size w0 w' := by
 refine enter (n := 76) Tryz.func4 rfl rfl rfl ?_
 have hk : Below w0.heap.size w0 w0 := Below.refl _ _
 refine sr (w_alloc (m := 3) (F := fun j => if j < 1 then .int .i64 0 else if j < 2 then .int .i64 0 else .int .i64 0) kr ?_)
 intro b_2 w1 hbe_b_2 r_b_2 hb2
 have ge_b_2 := gb_ hk.size hbe_b_2
 clear hbe_b_2
 replace hk := thenB hk hb2
 refine w_as Ev.c (nt (sr (w_val (v := .agg (arr 3 (fun j => if j < 1 then .int .i64 0 else if j < 2 then .int .i64 0 else .int .i64 0))) (y_build (vs := #[]) mp0 (fun w => by kernel_rfl)) (w_alloc (m := 3) (F := fun j => if j < 1 then .int .i64 0 else if j < 2 then .int .i64 0 else .int .i64 0) kr ?_))))
 intro b_s w3 hbe_b_s r_b_s hb4
 have ne_b_2_b_s := r_b_2.nb hbe_b_s
 have ge_b_s := gb_ hk.size hbe_b_s
 clear hbe_b_s
 replace r_b_2 := r_b_2.step hb4
 replace hk := thenB hk hb4
 refine w_sta (k := 3) (G := fun j => if j < 1 then .int .i64 0 else if j < 2 then .int .i64 0 else .int .i64 0) (ex (pt b_s 0)) ea oc SuAT.sz23 r_b_s om ?_
 clear r_b_s; intro w5 r_b_s hg6 _
 replace r_b_s := r_b_s.congr (g := fun j => if j < 1 then .int .i64 0 else if j < 2 then .int .i64 0 else .int .i64 0) (fun j hj => by rw [if_pos ⟨Nat.zero_le _, by omega⟩]; first | rfl | (simp only [Nat.sub_zero]))
 replace r_b_2 := r_b_2.stepG hg6 om
 replace hk := thenG hk hg6 om
 refine nt (wp_seq (sr (w_mv ei (nt (wp_block (wp_seq (sr (w_val (y_bin ei Ev.c b_eql) (w_as eb (nt (c_ff eb (sr (w_val (y_bin ei Ev.c b_eql) (w_as eb (nt (c_tt eb (wp_skip (then_n (c_tt eb (wp_region_lit (w_mv ei (w_val (y_bin Ev.c ei (b_mul om)) (w_val (y_bin Ev.c ei (b_add om)) (w_val (v := .agg (arr 3 (fun j => if j < 1 then .int .i64 24 else if j < 2 then .int .i64 12 else .int .i64 16))) (y_build (vs := #[(0, .int .i64 24), (1, .int .i64 12), (2, .int .i64 16)]) (mp_cons ei (mp_cons Ev.c (mp_cons Ev.c mp0))) (fun w => by kernel_rfl)) (w_sta (k := 3) (G := fun j => if j < 1 then .int .i64 24 else if j < 2 then .int .i64 12 else .int .i64 16) (ex (pt b_s 0)) ea oc SuAT.sz23 r_b_s om ?_)))))))))))))))))))))))))
 clear r_b_s; intro w7 r_b_s hg8 _
 replace r_b_s := r_b_s.congr (g := fun j => if j < 1 then .int .i64 24 else if j < 2 then .int .i64 12 else .int .i64 16) (fun j hj => by rw [if_pos ⟨Nat.zero_le _, by omega⟩]; first | rfl | (simp only [Nat.sub_zero]))
 replace r_b_2 := r_b_2.stepG hg8 om
 replace hk := thenG hk hg8 om
 refine wpList_nil (inb_n (then_n (sr (w_val (v := .agg (arr 3 (fun j => if j < 1 then .int .i64 24 else if j < 2 then .int .i64 12 else .int .i64 16))) (y_lda (ex (pt b_s 0)) SuAT.ag23 SuAT.sz23 (fun j hj => by rw [Nat.zero_add]; exact (r_b_s.cell om))) (w_sta (k := 3) (G := fun j => if j < 1 then .int .i64 24 else if j < 2 then .int .i64 12 else .int .i64 16) (ex (pt b_2 0)) ea oc SuAT.sz23 r_b_2 om ?_)))))
 clear r_b_2; intro w9 r_b_2 hg10 _
 replace r_b_2 := r_b_2.congr (g := fun j => if j < 1 then .int .i64 24 else if j < 2 then .int .i64 12 else .int .i64 16) (fun j hj => by rw [if_pos ⟨Nat.zero_le _, by omega⟩]; first | rfl | (simp only [Nat.sub_zero]))
 replace r_b_s := r_b_s.stepG hg10 om
 replace hk := thenG hk hg10 om
 refine w_as Ev.c (nt (wp_ret (fin_ct (F := fun j => if j < 1 then .int .i64 24 else if j < 2 then .int .i64 12 else .int .i64 16) rfl (ex (pt b_2 0)) ei SuAT.ag23 SuAT.sz23 r_b_2 om ?_)))
 refine ⟨congrArg Ending.returned ?_, hk⟩
 show (.tuple #[.agg (arr 3 (fun j => if j < 1 then .int .i64 24 else if j < 2 then .int .i64 12 else .int .i64 16)), .int .i64 0] : Value) = .tuple #[.agg (arr 3 (fun j => if j < 1 then .int .i64 (((Su.ky 1) : Nat) : Int) else if j < 2 then .int .i64 (((Su.iv 1) : Nat) : Int) else .int .i64 (((Su.tg 1) : Nat) : Int))), .int .i64 0]
 kernel_rfl

theorem suOf_3  (w0 : World) : Calls Tryz.prog 4 #[.int .i64 3] w0 fun e w' => e = .returned (.tuple #[.agg (arr 3 (fun j => if j < 1 then .int .i64 (((Su.ky 2) : Nat) : Int) else if j < 2 then .int .i64 (((Su.iv 2) : Nat) : Int) else .int .i64 (((Su.tg 2) : Nat) : Int))), .int .i64 0]) ∧ Below w0.heap.size w0 w' := by
 refine enter (n := 76) Tryz.func4 rfl rfl rfl ?_
 have hk : Below w0.heap.size w0 w0 := Below.refl _ _
 refine sr (w_alloc (m := 3) (F := fun j => if j < 1 then .int .i64 0 else if j < 2 then .int .i64 0 else .int .i64 0) kr ?_)
 intro b_2 w1 hbe_b_2 r_b_2 hb2
 have ge_b_2 := gb_ hk.size hbe_b_2
 clear hbe_b_2
 replace hk := thenB hk hb2
 refine w_as Ev.c (nt (sr (w_val (v := .agg (arr 3 (fun j => if j < 1 then .int .i64 0 else if j < 2 then .int .i64 0 else .int .i64 0))) (y_build (vs := #[]) mp0 (fun w => by kernel_rfl)) (w_alloc (m := 3) (F := fun j => if j < 1 then .int .i64 0 else if j < 2 then .int .i64 0 else .int .i64 0) kr ?_))))
 intro b_s w3 hbe_b_s r_b_s hb4
 have ne_b_2_b_s := r_b_2.nb hbe_b_s
 have ge_b_s := gb_ hk.size hbe_b_s
 clear hbe_b_s
 replace r_b_2 := r_b_2.step hb4
 replace hk := thenB hk hb4
 refine w_sta (k := 3) (G := fun j => if j < 1 then .int .i64 0 else if j < 2 then .int .i64 0 else .int .i64 0) (ex (pt b_s 0)) ea oc SuAT.sz23 r_b_s om ?_
 clear r_b_s; intro w5 r_b_s hg6 _
 replace r_b_s := r_b_s.congr (g := fun j => if j < 1 then .int .i64 0 else if j < 2 then .int .i64 0 else .int .i64 0) (fun j hj => by rw [if_pos ⟨Nat.zero_le _, by omega⟩]; first | rfl | (simp only [Nat.sub_zero]))
 replace r_b_2 := r_b_2.stepG hg6 om
 replace hk := thenG hk hg6 om
 refine nt (wp_seq (sr (w_mv ei (nt (wp_block (wp_seq (sr (w_val (y_bin ei Ev.c b_eql) (w_as eb (nt (c_ff eb (sr (w_val (y_bin ei Ev.c b_eql) (w_as eb (nt (c_ff eb (wp_region_lit (w_val (y_bin ei Ev.c b_eql) (w_as eb (nt (c_tt eb (wp_region_lit (w_mv ei (w_val (y_bin Ev.c ei (b_mul om)) (w_val (y_bin Ev.c ei (b_add om)) (w_val (v := .agg (arr 3 (fun j => if j < 1 then .int .i64 32 else if j < 2 then .int .i64 12 else .int .i64 16))) (y_build (vs := #[(0, .int .i64 32), (1, .int .i64 12), (2, .int .i64 16)]) (mp_cons ei (mp_cons Ev.c (mp_cons Ev.c mp0))) (fun w => by kernel_rfl)) (w_sta (k := 3) (G := fun j => if j < 1 then .int .i64 32 else if j < 2 then .int .i64 12 else .int .i64 16) (ex (pt b_s 0)) ea oc SuAT.sz23 r_b_s om ?_)))))))))))))))))))))))))))
 clear r_b_s; intro w7 r_b_s hg8 _
 replace r_b_s := r_b_s.congr (g := fun j => if j < 1 then .int .i64 32 else if j < 2 then .int .i64 12 else .int .i64 16) (fun j hj => by rw [if_pos ⟨Nat.zero_le _, by omega⟩]; first | rfl | (simp only [Nat.sub_zero]))
 replace r_b_2 := r_b_2.stepG hg8 om
 replace hk := thenG hk hg8 om
 refine wpList_nil (inb_n (then_n (sr (w_val (v := .agg (arr 3 (fun j => if j < 1 then .int .i64 32 else if j < 2 then .int .i64 12 else .int .i64 16))) (y_lda (ex (pt b_s 0)) SuAT.ag23 SuAT.sz23 (fun j hj => by rw [Nat.zero_add]; exact (r_b_s.cell om))) (w_sta (k := 3) (G := fun j => if j < 1 then .int .i64 32 else if j < 2 then .int .i64 12 else .int .i64 16) (ex (pt b_2 0)) ea oc SuAT.sz23 r_b_2 om ?_)))))
 clear r_b_2; intro w9 r_b_2 hg10 _
 replace r_b_2 := r_b_2.congr (g := fun j => if j < 1 then .int .i64 32 else if j < 2 then .int .i64 12 else .int .i64 16) (fun j hj => by rw [if_pos ⟨Nat.zero_le _, by omega⟩]; first | rfl | (simp only [Nat.sub_zero]))
 replace r_b_s := r_b_s.stepG hg10 om
 replace hk := thenG hk hg10 om
 refine w_as Ev.c (nt (wp_ret (fin_ct (F := fun j => if j < 1 then .int .i64 32 else if j < 2 then .int .i64 12 else .int .i64 16) rfl (ex (pt b_2 0)) ei SuAT.ag23 SuAT.sz23 r_b_2 om ?_)))
 refine ⟨congrArg Ending.returned ?_, hk⟩
 show (.tuple #[.agg (arr 3 (fun j => if j < 1 then .int .i64 32 else if j < 2 then .int .i64 12 else .int .i64 16)), .int .i64 0] : Value) = .tuple #[.agg (arr 3 (fun j => if j < 1 then .int .i64 (((Su.ky 2) : Nat) : Int) else if j < 2 then .int .i64 (((Su.iv 2) : Nat) : Int) else .int .i64 (((Su.tg 2) : Nat) : Int))), .int .i64 0]
 kernel_rfl

theorem suOf_4  (w0 : World) : Calls Tryz.prog 4 #[.int .i64 4] w0 fun e w' => e = .returned (.tuple #[.agg (arr 3 (fun j => if j < 1 then .int .i64 (((Su.ky 3) : Nat) : Int) else if j < 2 then .int .i64 (((Su.iv 3) : Nat) : Int) else .int .i64 (((Su.tg 3) : Nat) : Int))), .int .i64 0]) ∧ Below w0.heap.size w0 w' := by
 refine enter (n := 76) Tryz.func4 rfl rfl rfl ?_
 have hk : Below w0.heap.size w0 w0 := Below.refl _ _
 refine sr (w_alloc (m := 3) (F := fun j => if j < 1 then .int .i64 0 else if j < 2 then .int .i64 0 else .int .i64 0) kr ?_)
 intro b_2 w1 hbe_b_2 r_b_2 hb2
 have ge_b_2 := gb_ hk.size hbe_b_2
 clear hbe_b_2
 replace hk := thenB hk hb2
 refine w_as Ev.c (nt (sr (w_val (v := .agg (arr 3 (fun j => if j < 1 then .int .i64 0 else if j < 2 then .int .i64 0 else .int .i64 0))) (y_build (vs := #[]) mp0 (fun w => by kernel_rfl)) (w_alloc (m := 3) (F := fun j => if j < 1 then .int .i64 0 else if j < 2 then .int .i64 0 else .int .i64 0) kr ?_))))
 intro b_s w3 hbe_b_s r_b_s hb4
 have ne_b_2_b_s := r_b_2.nb hbe_b_s
 have ge_b_s := gb_ hk.size hbe_b_s
 clear hbe_b_s
 replace r_b_2 := r_b_2.step hb4
 replace hk := thenB hk hb4
 refine w_sta (k := 3) (G := fun j => if j < 1 then .int .i64 0 else if j < 2 then .int .i64 0 else .int .i64 0) (ex (pt b_s 0)) ea oc SuAT.sz23 r_b_s om ?_
 clear r_b_s; intro w5 r_b_s hg6 _
 replace r_b_s := r_b_s.congr (g := fun j => if j < 1 then .int .i64 0 else if j < 2 then .int .i64 0 else .int .i64 0) (fun j hj => by rw [if_pos ⟨Nat.zero_le _, by omega⟩]; first | rfl | (simp only [Nat.sub_zero]))
 replace r_b_2 := r_b_2.stepG hg6 om
 replace hk := thenG hk hg6 om
 refine nt (wp_seq (sr (w_mv ei (nt (wp_block (wp_seq (sr (w_val (y_bin ei Ev.c b_eql) (w_as eb (nt (c_ff eb (sr (w_val (y_bin ei Ev.c b_eql) (w_as eb (nt (c_ff eb (wp_region_lit (w_val (y_bin ei Ev.c b_eql) (w_as eb (nt (c_ff eb (wp_seq (sr (w_val (y_bin ei Ev.c b_eql) (w_as eb (nt (c_tt eb (wp_skip (then_n (c_tt eb (wp_region_lit (w_mv ei (w_val (y_bin ei Ev.c (b_sub om)) (w_val (y_bin Ev.c ei (b_mul om)) (w_mv ei (w_val (y_bin ei Ev.c (b_sub om)) (w_val (y_bin Ev.c ei (b_mul om)) (w_val (v := .agg (arr 3 (fun j => if j < 1 then .int .i64 32 else if j < 2 then .int .i64 16 else .int .i64 16))) (y_build (vs := #[(0, .int .i64 32), (1, .int .i64 16), (2, .int .i64 16)]) (mp_cons ei (mp_cons Ev.c (mp_cons ei mp0))) (fun w => by kernel_rfl)) (w_sta (k := 3) (G := fun j => if j < 1 then .int .i64 32 else if j < 2 then .int .i64 16 else .int .i64 16) (ex (pt b_s 0)) ea oc SuAT.sz23 r_b_s om ?_)))))))))))))))))))))))))))))))))))))))
 clear r_b_s; intro w7 r_b_s hg8 _
 replace r_b_s := r_b_s.congr (g := fun j => if j < 1 then .int .i64 32 else if j < 2 then .int .i64 16 else .int .i64 16) (fun j hj => by rw [if_pos ⟨Nat.zero_le _, by omega⟩]; first | rfl | (simp only [Nat.sub_zero]))
 replace r_b_2 := r_b_2.stepG hg8 om
 replace hk := thenG hk hg8 om
 refine wpList_nil (inb_n (then_n (sr (w_val (v := .agg (arr 3 (fun j => if j < 1 then .int .i64 32 else if j < 2 then .int .i64 16 else .int .i64 16))) (y_lda (ex (pt b_s 0)) SuAT.ag23 SuAT.sz23 (fun j hj => by rw [Nat.zero_add]; exact (r_b_s.cell om))) (w_sta (k := 3) (G := fun j => if j < 1 then .int .i64 32 else if j < 2 then .int .i64 16 else .int .i64 16) (ex (pt b_2 0)) ea oc SuAT.sz23 r_b_2 om ?_)))))
 clear r_b_2; intro w9 r_b_2 hg10 _
 replace r_b_2 := r_b_2.congr (g := fun j => if j < 1 then .int .i64 32 else if j < 2 then .int .i64 16 else .int .i64 16) (fun j hj => by rw [if_pos ⟨Nat.zero_le _, by omega⟩]; first | rfl | (simp only [Nat.sub_zero]))
 replace r_b_s := r_b_s.stepG hg10 om
 replace hk := thenG hk hg10 om
 refine w_as Ev.c (nt (wp_ret (fin_ct (F := fun j => if j < 1 then .int .i64 32 else if j < 2 then .int .i64 16 else .int .i64 16) rfl (ex (pt b_2 0)) ei SuAT.ag23 SuAT.sz23 r_b_2 om ?_)))
 refine ⟨congrArg Ending.returned ?_, hk⟩
 show (.tuple #[.agg (arr 3 (fun j => if j < 1 then .int .i64 32 else if j < 2 then .int .i64 16 else .int .i64 16)), .int .i64 0] : Value) = .tuple #[.agg (arr 3 (fun j => if j < 1 then .int .i64 (((Su.ky 3) : Nat) : Int) else if j < 2 then .int .i64 (((Su.iv 3) : Nat) : Int) else .int .i64 (((Su.tg 3) : Nat) : Int))), .int .i64 0]
 kernel_rfl

theorem suOf_5  (w0 : World) : Calls Tryz.prog 4 #[.int .i64 5] w0 fun e w' => e = .returned (.tuple #[.agg (arr 3 (fun j => if j < 1 then .int .i64 (((Su.ky 4) : Nat) : Int) else if j < 2 then .int .i64 (((Su.iv 4) : Nat) : Int) else .int .i64 (((Su.tg 4) : Nat) : Int))), .int .i64 0]) ∧ Below w0.heap.size w0 w' := by
 refine enter (n := 76) Tryz.func4 rfl rfl rfl ?_
 have hk : Below w0.heap.size w0 w0 := Below.refl _ _
 refine sr (w_alloc (m := 3) (F := fun j => if j < 1 then .int .i64 0 else if j < 2 then .int .i64 0 else .int .i64 0) kr ?_)
 intro b_2 w1 hbe_b_2 r_b_2 hb2
 have ge_b_2 := gb_ hk.size hbe_b_2
 clear hbe_b_2
 replace hk := thenB hk hb2
 refine w_as Ev.c (nt (sr (w_val (v := .agg (arr 3 (fun j => if j < 1 then .int .i64 0 else if j < 2 then .int .i64 0 else .int .i64 0))) (y_build (vs := #[]) mp0 (fun w => by kernel_rfl)) (w_alloc (m := 3) (F := fun j => if j < 1 then .int .i64 0 else if j < 2 then .int .i64 0 else .int .i64 0) kr ?_))))
 intro b_s w3 hbe_b_s r_b_s hb4
 have ne_b_2_b_s := r_b_2.nb hbe_b_s
 have ge_b_s := gb_ hk.size hbe_b_s
 clear hbe_b_s
 replace r_b_2 := r_b_2.step hb4
 replace hk := thenB hk hb4
 refine w_sta (k := 3) (G := fun j => if j < 1 then .int .i64 0 else if j < 2 then .int .i64 0 else .int .i64 0) (ex (pt b_s 0)) ea oc SuAT.sz23 r_b_s om ?_
 clear r_b_s; intro w5 r_b_s hg6 _
 replace r_b_s := r_b_s.congr (g := fun j => if j < 1 then .int .i64 0 else if j < 2 then .int .i64 0 else .int .i64 0) (fun j hj => by rw [if_pos ⟨Nat.zero_le _, by omega⟩]; first | rfl | (simp only [Nat.sub_zero]))
 replace r_b_2 := r_b_2.stepG hg6 om
 replace hk := thenG hk hg6 om
 refine nt (wp_seq (sr (w_mv ei (nt (wp_block (wp_seq (sr (w_val (y_bin ei Ev.c b_eql) (w_as eb (nt (c_ff eb (sr (w_val (y_bin ei Ev.c b_eql) (w_as eb (nt (c_ff eb (wp_region_lit (w_val (y_bin ei Ev.c b_eql) (w_as eb (nt (c_ff eb (wp_seq (sr (w_val (y_bin ei Ev.c b_eql) (w_as eb (nt (c_ff eb (sr (w_val (y_bin ei Ev.c b_eql) (w_as eb (nt (c_tt eb (wp_skip (then_n (c_tt eb (wp_region_lit (w_mv ei (w_val (y_bin ei Ev.c (b_sub om)) (w_val (y_bin Ev.c ei (b_mul om)) ?_)))))))))))))))))))))))))))))))))))))))
 refine w_mv ei (w_val (y_bin ei Ev.c (b_sub om)) (w_val (y_bin Ev.c ei (b_mul om)) (w_val (v := .agg (arr 3 (fun j => if j < 1 then .int .i64 48 else if j < 2 then .int .i64 16 else .int .i64 24))) (y_build (vs := #[(0, .int .i64 48), (1, .int .i64 16), (2, .int .i64 24)]) (mp_cons ei (mp_cons Ev.c (mp_cons ei mp0))) (fun w => by kernel_rfl)) (w_sta (k := 3) (G := fun j => if j < 1 then .int .i64 48 else if j < 2 then .int .i64 16 else .int .i64 24) (ex (pt b_s 0)) ea oc SuAT.sz23 r_b_s om ?_))))
 clear r_b_s; intro w7 r_b_s hg8 _
 replace r_b_s := r_b_s.congr (g := fun j => if j < 1 then .int .i64 48 else if j < 2 then .int .i64 16 else .int .i64 24) (fun j hj => by rw [if_pos ⟨Nat.zero_le _, by omega⟩]; first | rfl | (simp only [Nat.sub_zero]))
 replace r_b_2 := r_b_2.stepG hg8 om
 replace hk := thenG hk hg8 om
 refine wpList_nil (inb_n (then_n (sr (w_val (v := .agg (arr 3 (fun j => if j < 1 then .int .i64 48 else if j < 2 then .int .i64 16 else .int .i64 24))) (y_lda (ex (pt b_s 0)) SuAT.ag23 SuAT.sz23 (fun j hj => by rw [Nat.zero_add]; exact (r_b_s.cell om))) (w_sta (k := 3) (G := fun j => if j < 1 then .int .i64 48 else if j < 2 then .int .i64 16 else .int .i64 24) (ex (pt b_2 0)) ea oc SuAT.sz23 r_b_2 om ?_)))))
 clear r_b_2; intro w9 r_b_2 hg10 _
 replace r_b_2 := r_b_2.congr (g := fun j => if j < 1 then .int .i64 48 else if j < 2 then .int .i64 16 else .int .i64 24) (fun j hj => by rw [if_pos ⟨Nat.zero_le _, by omega⟩]; first | rfl | (simp only [Nat.sub_zero]))
 replace r_b_s := r_b_s.stepG hg10 om
 replace hk := thenG hk hg10 om
 refine w_as Ev.c (nt (wp_ret (fin_ct (F := fun j => if j < 1 then .int .i64 48 else if j < 2 then .int .i64 16 else .int .i64 24) rfl (ex (pt b_2 0)) ei SuAT.ag23 SuAT.sz23 r_b_2 om ?_)))
 refine ⟨congrArg Ending.returned ?_, hk⟩
 show (.tuple #[.agg (arr 3 (fun j => if j < 1 then .int .i64 48 else if j < 2 then .int .i64 16 else .int .i64 24)), .int .i64 0] : Value) = .tuple #[.agg (arr 3 (fun j => if j < 1 then .int .i64 (((Su.ky 4) : Nat) : Int) else if j < 2 then .int .i64 (((Su.iv 4) : Nat) : Int) else .int .i64 (((Su.tg 4) : Nat) : Int))), .int .i64 0]
 kernel_rfl

theorem suOf_6  (w0 : World) : Calls Tryz.prog 4 #[.int .i64 6] w0 fun e w' => e = .returned (.tuple #[.agg (arr 3 (fun j => if j < 1 then .int .i64 (((Su.ky 5) : Nat) : Int) else if j < 2 then .int .i64 (((Su.iv 5) : Nat) : Int) else .int .i64 (((Su.tg 5) : Nat) : Int))), .int .i64 0]) ∧ Below w0.heap.size w0 w' := by
 refine enter (n := 76) Tryz.func4 rfl rfl rfl ?_
 have hk : Below w0.heap.size w0 w0 := Below.refl _ _
 refine sr (w_alloc (m := 3) (F := fun j => if j < 1 then .int .i64 0 else if j < 2 then .int .i64 0 else .int .i64 0) kr ?_)
 intro b_2 w1 hbe_b_2 r_b_2 hb2
 have ge_b_2 := gb_ hk.size hbe_b_2
 clear hbe_b_2
 replace hk := thenB hk hb2
 refine w_as Ev.c (nt (sr (w_val (v := .agg (arr 3 (fun j => if j < 1 then .int .i64 0 else if j < 2 then .int .i64 0 else .int .i64 0))) (y_build (vs := #[]) mp0 (fun w => by kernel_rfl)) (w_alloc (m := 3) (F := fun j => if j < 1 then .int .i64 0 else if j < 2 then .int .i64 0 else .int .i64 0) kr ?_))))
 intro b_s w3 hbe_b_s r_b_s hb4
 have ne_b_2_b_s := r_b_2.nb hbe_b_s
 have ge_b_s := gb_ hk.size hbe_b_s
 clear hbe_b_s
 replace r_b_2 := r_b_2.step hb4
 replace hk := thenB hk hb4
 refine w_sta (k := 3) (G := fun j => if j < 1 then .int .i64 0 else if j < 2 then .int .i64 0 else .int .i64 0) (ex (pt b_s 0)) ea oc SuAT.sz23 r_b_s om ?_
 clear r_b_s; intro w5 r_b_s hg6 _
 replace r_b_s := r_b_s.congr (g := fun j => if j < 1 then .int .i64 0 else if j < 2 then .int .i64 0 else .int .i64 0) (fun j hj => by rw [if_pos ⟨Nat.zero_le _, by omega⟩]; first | rfl | (simp only [Nat.sub_zero]))
 replace r_b_2 := r_b_2.stepG hg6 om
 replace hk := thenG hk hg6 om
 refine nt (wp_seq (sr (w_mv ei (nt (wp_block (wp_seq (sr (w_val (y_bin ei Ev.c b_eql) (w_as eb (nt (c_ff eb (sr (w_val (y_bin ei Ev.c b_eql) (w_as eb (nt (c_ff eb (wp_region_lit (w_val (y_bin ei Ev.c b_eql) (w_as eb (nt (c_ff eb (wp_seq (sr (w_val (y_bin ei Ev.c b_eql) (w_as eb (nt (c_ff eb (sr (w_val (y_bin ei Ev.c b_eql) (w_as eb (nt (c_ff eb (wp_region_lit (w_val (y_bin ei Ev.c b_eql) (w_as eb (nt (c_tt eb (wp_region_lit (w_mv ei ?_)))))))))))))))))))))))))))))))))))))))
 refine w_val (y_bin ei Ev.c (b_sub om)) (w_val (y_bin Ev.c ei (b_mul om)) (w_mv ei (w_val (y_bin ei Ev.c (b_sub om)) (w_val (y_bin Ev.c ei (b_mul om)) (w_val (v := .agg (arr 3 (fun j => if j < 1 then .int .i64 64 else if j < 2 then .int .i64 16 else .int .i64 32))) (y_build (vs := #[(0, .int .i64 64), (1, .int .i64 16), (2, .int .i64 32)]) (mp_cons ei (mp_cons Ev.c (mp_cons ei mp0))) (fun w => by kernel_rfl)) (w_sta (k := 3) (G := fun j => if j < 1 then .int .i64 64 else if j < 2 then .int .i64 16 else .int .i64 32) (ex (pt b_s 0)) ea oc SuAT.sz23 r_b_s om ?_))))))
 clear r_b_s; intro w7 r_b_s hg8 _
 replace r_b_s := r_b_s.congr (g := fun j => if j < 1 then .int .i64 64 else if j < 2 then .int .i64 16 else .int .i64 32) (fun j hj => by rw [if_pos ⟨Nat.zero_le _, by omega⟩]; first | rfl | (simp only [Nat.sub_zero]))
 replace r_b_2 := r_b_2.stepG hg8 om
 replace hk := thenG hk hg8 om
 refine wpList_nil (inb_n (then_n (sr (w_val (v := .agg (arr 3 (fun j => if j < 1 then .int .i64 64 else if j < 2 then .int .i64 16 else .int .i64 32))) (y_lda (ex (pt b_s 0)) SuAT.ag23 SuAT.sz23 (fun j hj => by rw [Nat.zero_add]; exact (r_b_s.cell om))) (w_sta (k := 3) (G := fun j => if j < 1 then .int .i64 64 else if j < 2 then .int .i64 16 else .int .i64 32) (ex (pt b_2 0)) ea oc SuAT.sz23 r_b_2 om ?_)))))
 clear r_b_2; intro w9 r_b_2 hg10 _
 replace r_b_2 := r_b_2.congr (g := fun j => if j < 1 then .int .i64 64 else if j < 2 then .int .i64 16 else .int .i64 32) (fun j hj => by rw [if_pos ⟨Nat.zero_le _, by omega⟩]; first | rfl | (simp only [Nat.sub_zero]))
 replace r_b_s := r_b_s.stepG hg10 om
 replace hk := thenG hk hg10 om
 refine w_as Ev.c (nt (wp_ret (fin_ct (F := fun j => if j < 1 then .int .i64 64 else if j < 2 then .int .i64 16 else .int .i64 32) rfl (ex (pt b_2 0)) ei SuAT.ag23 SuAT.sz23 r_b_2 om ?_)))
 refine ⟨congrArg Ending.returned ?_, hk⟩
 show (.tuple #[.agg (arr 3 (fun j => if j < 1 then .int .i64 64 else if j < 2 then .int .i64 16 else .int .i64 32)), .int .i64 0] : Value) = .tuple #[.agg (arr 3 (fun j => if j < 1 then .int .i64 (((Su.ky 5) : Nat) : Int) else if j < 2 then .int .i64 (((Su.iv 5) : Nat) : Int) else .int .i64 (((Su.tg 5) : Nat) : Int))), .int .i64 0]
 kernel_rfl

theorem suOf_10  (w0 : World) : Calls Tryz.prog 4 #[.int .i64 10] w0 fun e w' => e = .returned (.tuple #[.agg (arr 3 (fun j => if j < 1 then .int .i64 (((Su.ky 6) : Nat) : Int) else if j < 2 then .int .i64 (((Su.iv 6) : Nat) : Int) else .int .i64 (((Su.tg 6) : Nat) : Int))), .int .i64 0]) ∧ Below w0.heap.size w0 w' := by
 refine enter (n := 76) Tryz.func4 rfl rfl rfl ?_
 have hk : Below w0.heap.size w0 w0 := Below.refl _ _
 refine sr (w_alloc (m := 3) (F := fun j => if j < 1 then .int .i64 0 else if j < 2 then .int .i64 0 else .int .i64 0) kr ?_)
 intro b_2 w1 hbe_b_2 r_b_2 hb2
 have ge_b_2 := gb_ hk.size hbe_b_2
 clear hbe_b_2
 replace hk := thenB hk hb2
 refine w_as Ev.c (nt (sr (w_val (v := .agg (arr 3 (fun j => if j < 1 then .int .i64 0 else if j < 2 then .int .i64 0 else .int .i64 0))) (y_build (vs := #[]) mp0 (fun w => by kernel_rfl)) (w_alloc (m := 3) (F := fun j => if j < 1 then .int .i64 0 else if j < 2 then .int .i64 0 else .int .i64 0) kr ?_))))
 intro b_s w3 hbe_b_s r_b_s hb4
 have ne_b_2_b_s := r_b_2.nb hbe_b_s
 have ge_b_s := gb_ hk.size hbe_b_s
 clear hbe_b_s
 replace r_b_2 := r_b_2.step hb4
 replace hk := thenB hk hb4
 refine w_sta (k := 3) (G := fun j => if j < 1 then .int .i64 0 else if j < 2 then .int .i64 0 else .int .i64 0) (ex (pt b_s 0)) ea oc SuAT.sz23 r_b_s om ?_
 clear r_b_s; intro w5 r_b_s hg6 _
 replace r_b_s := r_b_s.congr (g := fun j => if j < 1 then .int .i64 0 else if j < 2 then .int .i64 0 else .int .i64 0) (fun j hj => by rw [if_pos ⟨Nat.zero_le _, by omega⟩]; first | rfl | (simp only [Nat.sub_zero]))
 replace r_b_2 := r_b_2.stepG hg6 om
 replace hk := thenG hk hg6 om
 refine nt (wp_seq (sr (w_mv ei (nt (wp_block (wp_seq (sr (w_val (y_bin ei Ev.c b_eql) (w_as eb (nt (c_ff eb (sr (w_val (y_bin ei Ev.c b_eql) (w_as eb (nt (c_ff eb (wp_region_lit (w_val (y_bin ei Ev.c b_eql) (w_as eb (nt (c_ff eb (wp_seq (sr (w_val (y_bin ei Ev.c b_eql) (w_as eb (nt (c_ff eb (sr (w_val (y_bin ei Ev.c b_eql) (w_as eb (nt (c_ff eb (wp_region_lit (w_val (y_bin ei Ev.c b_eql) (w_as eb (nt (c_ff eb (wp_seq (sr ?_)))))))))))))))))))))))))))))))))))))))
 refine w_val (y_bin ei Ev.c b_eql) (w_as eb (nt (c_tt eb (wp_skip (then_n (c_tt eb (sr (w_mv ei (w_val (y_bin ei Ev.c (b_rem om)) (w_val (y_bin Ev.c ei (b_shl (c := 0) om om om)) (w_val (v := .agg (arr 3 (fun j => if j < 1 then .int .i64 (16 * 2 ^ 0) else if j < 2 then .int .i64 13 else .int .i64 8))) (y_build (vs := #[(0, .int .i64 (16 * 2 ^ 0)), (1, .int .i64 13), (2, .int .i64 8)]) (mp_cons ei (mp_cons Ev.c (mp_cons Ev.c mp0))) (fun w => by kernel_rfl)) (w_sta (k := 3) (G := fun j => if j < 1 then .int .i64 (16 * 2 ^ 0) else if j < 2 then .int .i64 13 else .int .i64 8) (ex (pt b_s 0)) ea oc SuAT.sz23 r_b_s om ?_))))))))))))
 clear r_b_s; intro w7 r_b_s hg8 _
 replace r_b_s := r_b_s.congr (g := fun j => if j < 1 then .int .i64 (16 * 2 ^ 0) else if j < 2 then .int .i64 13 else .int .i64 8) (fun j hj => by rw [if_pos ⟨Nat.zero_le _, by omega⟩]; first | rfl | (simp only [Nat.sub_zero]))
 replace r_b_2 := r_b_2.stepG hg8 om
 replace hk := thenG hk hg8 om
 refine nt (wp_seq (sr (w_mv ei (w_val (y_bin ei Ev.c (b_rem om)) (w_val (y_bin ei Ev.c b_geq) (nt (c_ff eb (wp_skip (then_n (sr (w_mv ei (w_val (y_bin ei Ev.c b_geq) (nt (c_ff eb (wp_skip (inb_n (then_n (sr (w_val (v := .agg (arr 3 (fun j => if j < 1 then .int .i64 (16 * 2 ^ 0) else if j < 2 then .int .i64 13 else .int .i64 8))) (y_lda (ex (pt b_s 0)) SuAT.ag23 SuAT.sz23 (fun j hj => by rw [Nat.zero_add]; exact (r_b_s.cell om))) (w_sta (k := 3) (G := fun j => if j < 1 then .int .i64 (16 * 2 ^ 0) else if j < 2 then .int .i64 13 else .int .i64 8) (ex (pt b_2 0)) ea oc SuAT.sz23 r_b_2 om ?_))))))))))))))))))))
 clear r_b_2; intro w9 r_b_2 hg10 _
 replace r_b_2 := r_b_2.congr (g := fun j => if j < 1 then .int .i64 (16 * 2 ^ 0) else if j < 2 then .int .i64 13 else .int .i64 8) (fun j hj => by rw [if_pos ⟨Nat.zero_le _, by omega⟩]; first | rfl | (simp only [Nat.sub_zero]))
 replace r_b_s := r_b_s.stepG hg10 om
 replace hk := thenG hk hg10 om
 refine w_as Ev.c (nt (wp_ret (fin_ct (F := fun j => if j < 1 then .int .i64 (16 * 2 ^ 0) else if j < 2 then .int .i64 13 else .int .i64 8) rfl (ex (pt b_2 0)) ei SuAT.ag23 SuAT.sz23 r_b_2 om ?_)))
 refine ⟨congrArg Ending.returned ?_, hk⟩
 show (.tuple #[.agg (arr 3 (fun j => if j < 1 then .int .i64 (16 * 2 ^ 0) else if j < 2 then .int .i64 13 else .int .i64 8)), .int .i64 0] : Value) = .tuple #[.agg (arr 3 (fun j => if j < 1 then .int .i64 (((Su.ky 6) : Nat) : Int) else if j < 2 then .int .i64 (((Su.iv 6) : Nat) : Int) else .int .i64 (((Su.tg 6) : Nat) : Int))), .int .i64 0]
 kernel_rfl

theorem suOf_11  (w0 : World) : Calls Tryz.prog 4 #[.int .i64 11] w0 fun e w' => e = .returned (.tuple #[.agg (arr 3 (fun j => if j < 1 then .int .i64 (((Su.ky 7) : Nat) : Int) else if j < 2 then .int .i64 (((Su.iv 7) : Nat) : Int) else .int .i64 (((Su.tg 7) : Nat) : Int))), .int .i64 0]) ∧ Below w0.heap.size w0 w' := by
 refine enter (n := 76) Tryz.func4 rfl rfl rfl ?_
 have hk : Below w0.heap.size w0 w0 := Below.refl _ _
 refine sr (w_alloc (m := 3) (F := fun j => if j < 1 then .int .i64 0 else if j < 2 then .int .i64 0 else .int .i64 0) kr ?_)
 intro b_2 w1 hbe_b_2 r_b_2 hb2
 have ge_b_2 := gb_ hk.size hbe_b_2
 clear hbe_b_2
 replace hk := thenB hk hb2
 refine w_as Ev.c (nt (sr (w_val (v := .agg (arr 3 (fun j => if j < 1 then .int .i64 0 else if j < 2 then .int .i64 0 else .int .i64 0))) (y_build (vs := #[]) mp0 (fun w => by kernel_rfl)) (w_alloc (m := 3) (F := fun j => if j < 1 then .int .i64 0 else if j < 2 then .int .i64 0 else .int .i64 0) kr ?_))))
 intro b_s w3 hbe_b_s r_b_s hb4
 have ne_b_2_b_s := r_b_2.nb hbe_b_s
 have ge_b_s := gb_ hk.size hbe_b_s
 clear hbe_b_s
 replace r_b_2 := r_b_2.step hb4
 replace hk := thenB hk hb4
 refine w_sta (k := 3) (G := fun j => if j < 1 then .int .i64 0 else if j < 2 then .int .i64 0 else .int .i64 0) (ex (pt b_s 0)) ea oc SuAT.sz23 r_b_s om ?_
 clear r_b_s; intro w5 r_b_s hg6 _
 replace r_b_s := r_b_s.congr (g := fun j => if j < 1 then .int .i64 0 else if j < 2 then .int .i64 0 else .int .i64 0) (fun j hj => by rw [if_pos ⟨Nat.zero_le _, by omega⟩]; first | rfl | (simp only [Nat.sub_zero]))
 replace r_b_2 := r_b_2.stepG hg6 om
 replace hk := thenG hk hg6 om
 refine nt (wp_seq (sr (w_mv ei (nt (wp_block (wp_seq (sr (w_val (y_bin ei Ev.c b_eql) (w_as eb (nt (c_ff eb (sr (w_val (y_bin ei Ev.c b_eql) (w_as eb (nt (c_ff eb (wp_region_lit (w_val (y_bin ei Ev.c b_eql) (w_as eb (nt (c_ff eb (wp_seq (sr (w_val (y_bin ei Ev.c b_eql) (w_as eb (nt (c_ff eb (sr (w_val (y_bin ei Ev.c b_eql) (w_as eb (nt (c_ff eb (wp_region_lit (w_val (y_bin ei Ev.c b_eql) (w_as eb (nt (c_ff eb (wp_seq (sr ?_)))))))))))))))))))))))))))))))))))))))
 refine w_val (y_bin ei Ev.c b_eql) (w_as eb (nt (c_ff eb (sr (w_val (y_bin ei Ev.c b_eql) (w_as eb (nt (c_tt eb (wp_skip (then_n (c_tt eb (sr (w_mv ei (w_val (y_bin ei Ev.c (b_rem om)) (w_val (y_bin Ev.c ei (b_shl (c := 1) om om om)) (w_val (v := .agg (arr 3 (fun j => if j < 1 then .int .i64 (16 * 2 ^ 1) else if j < 2 then .int .i64 13 else .int .i64 8))) (y_build (vs := #[(0, .int .i64 (16 * 2 ^ 1)), (1, .int .i64 13), (2, .int .i64 8)]) (mp_cons ei (mp_cons Ev.c (mp_cons Ev.c mp0))) (fun w => by kernel_rfl)) (w_sta (k := 3) (G := fun j => if j < 1 then .int .i64 (16 * 2 ^ 1) else if j < 2 then .int .i64 13 else .int .i64 8) (ex (pt b_s 0)) ea oc SuAT.sz23 r_b_s om ?_)))))))))))))))))
 clear r_b_s; intro w7 r_b_s hg8 _
 replace r_b_s := r_b_s.congr (g := fun j => if j < 1 then .int .i64 (16 * 2 ^ 1) else if j < 2 then .int .i64 13 else .int .i64 8) (fun j hj => by rw [if_pos ⟨Nat.zero_le _, by omega⟩]; first | rfl | (simp only [Nat.sub_zero]))
 replace r_b_2 := r_b_2.stepG hg8 om
 replace hk := thenG hk hg8 om
 refine nt (wp_seq (sr (w_mv ei (w_val (y_bin ei Ev.c (b_rem om)) (w_val (y_bin ei Ev.c b_geq) (nt (c_ff eb (wp_skip (then_n (sr (w_mv ei (w_val (y_bin ei Ev.c b_geq) (nt (c_ff eb (wp_skip (inb_n (then_n (sr (w_val (v := .agg (arr 3 (fun j => if j < 1 then .int .i64 (16 * 2 ^ 1) else if j < 2 then .int .i64 13 else .int .i64 8))) (y_lda (ex (pt b_s 0)) SuAT.ag23 SuAT.sz23 (fun j hj => by rw [Nat.zero_add]; exact (r_b_s.cell om))) (w_sta (k := 3) (G := fun j => if j < 1 then .int .i64 (16 * 2 ^ 1) else if j < 2 then .int .i64 13 else .int .i64 8) (ex (pt b_2 0)) ea oc SuAT.sz23 r_b_2 om ?_))))))))))))))))))))
 clear r_b_2; intro w9 r_b_2 hg10 _
 replace r_b_2 := r_b_2.congr (g := fun j => if j < 1 then .int .i64 (16 * 2 ^ 1) else if j < 2 then .int .i64 13 else .int .i64 8) (fun j hj => by rw [if_pos ⟨Nat.zero_le _, by omega⟩]; first | rfl | (simp only [Nat.sub_zero]))
 replace r_b_s := r_b_s.stepG hg10 om
 replace hk := thenG hk hg10 om
 refine w_as Ev.c (nt (wp_ret (fin_ct (F := fun j => if j < 1 then .int .i64 (16 * 2 ^ 1) else if j < 2 then .int .i64 13 else .int .i64 8) rfl (ex (pt b_2 0)) ei SuAT.ag23 SuAT.sz23 r_b_2 om ?_)))
 refine ⟨congrArg Ending.returned ?_, hk⟩
 show (.tuple #[.agg (arr 3 (fun j => if j < 1 then .int .i64 (16 * 2 ^ 1) else if j < 2 then .int .i64 13 else .int .i64 8)), .int .i64 0] : Value) = .tuple #[.agg (arr 3 (fun j => if j < 1 then .int .i64 (((Su.ky 7) : Nat) : Int) else if j < 2 then .int .i64 (((Su.iv 7) : Nat) : Int) else .int .i64 (((Su.tg 7) : Nat) : Int))), .int .i64 0]
 kernel_rfl

theorem suOf_12  (w0 : World) : Calls Tryz.prog 4 #[.int .i64 12] w0 fun e w' => e = .returned (.tuple #[.agg (arr 3 (fun j => if j < 1 then .int .i64 (((Su.ky 8) : Nat) : Int) else if j < 2 then .int .i64 (((Su.iv 8) : Nat) : Int) else .int .i64 (((Su.tg 8) : Nat) : Int))), .int .i64 0]) ∧ Below w0.heap.size w0 w' := by
 refine enter (n := 76) Tryz.func4 rfl rfl rfl ?_
 have hk : Below w0.heap.size w0 w0 := Below.refl _ _
 refine sr (w_alloc (m := 3) (F := fun j => if j < 1 then .int .i64 0 else if j < 2 then .int .i64 0 else .int .i64 0) kr ?_)
 intro b_2 w1 hbe_b_2 r_b_2 hb2
 have ge_b_2 := gb_ hk.size hbe_b_2
 clear hbe_b_2
 replace hk := thenB hk hb2
 refine w_as Ev.c (nt (sr (w_val (v := .agg (arr 3 (fun j => if j < 1 then .int .i64 0 else if j < 2 then .int .i64 0 else .int .i64 0))) (y_build (vs := #[]) mp0 (fun w => by kernel_rfl)) (w_alloc (m := 3) (F := fun j => if j < 1 then .int .i64 0 else if j < 2 then .int .i64 0 else .int .i64 0) kr ?_))))
 intro b_s w3 hbe_b_s r_b_s hb4
 have ne_b_2_b_s := r_b_2.nb hbe_b_s
 have ge_b_s := gb_ hk.size hbe_b_s
 clear hbe_b_s
 replace r_b_2 := r_b_2.step hb4
 replace hk := thenB hk hb4
 refine w_sta (k := 3) (G := fun j => if j < 1 then .int .i64 0 else if j < 2 then .int .i64 0 else .int .i64 0) (ex (pt b_s 0)) ea oc SuAT.sz23 r_b_s om ?_
 clear r_b_s; intro w5 r_b_s hg6 _
 replace r_b_s := r_b_s.congr (g := fun j => if j < 1 then .int .i64 0 else if j < 2 then .int .i64 0 else .int .i64 0) (fun j hj => by rw [if_pos ⟨Nat.zero_le _, by omega⟩]; first | rfl | (simp only [Nat.sub_zero]))
 replace r_b_2 := r_b_2.stepG hg6 om
 replace hk := thenG hk hg6 om
 refine nt (wp_seq (sr (w_mv ei (nt (wp_block (wp_seq (sr (w_val (y_bin ei Ev.c b_eql) (w_as eb (nt (c_ff eb (sr (w_val (y_bin ei Ev.c b_eql) (w_as eb (nt (c_ff eb (wp_region_lit (w_val (y_bin ei Ev.c b_eql) (w_as eb (nt (c_ff eb (wp_seq (sr (w_val (y_bin ei Ev.c b_eql) (w_as eb (nt (c_ff eb (sr (w_val (y_bin ei Ev.c b_eql) (w_as eb (nt (c_ff eb (wp_region_lit (w_val (y_bin ei Ev.c b_eql) (w_as eb (nt (c_ff eb (wp_seq (sr ?_)))))))))))))))))))))))))))))))))))))))
 refine w_val (y_bin ei Ev.c b_eql) (w_as eb (nt (c_ff eb (sr (w_val (y_bin ei Ev.c b_eql) (w_as eb (nt (c_ff eb (sr (w_val (y_bin ei Ev.c b_eql) (w_as eb (nt (c_tt eb (wp_skip (then_n (c_tt eb (sr (w_mv ei (w_val (y_bin ei Ev.c (b_rem om)) (w_val (y_bin Ev.c ei (b_shl (c := 0) om om om)) (w_val (v := .agg (arr 3 (fun j => if j < 1 then .int .i64 (16 * 2 ^ 0) else if j < 2 then .int .i64 13 else .int .i64 8))) (y_build (vs := #[(0, .int .i64 (16 * 2 ^ 0)), (1, .int .i64 13), (2, .int .i64 8)]) (mp_cons ei (mp_cons Ev.c (mp_cons Ev.c mp0))) (fun w => by kernel_rfl)) (w_sta (k := 3) (G := fun j => if j < 1 then .int .i64 (16 * 2 ^ 0) else if j < 2 then .int .i64 13 else .int .i64 8) (ex (pt b_s 0)) ea oc SuAT.sz23 r_b_s om ?_))))))))))))))))))))))
 clear r_b_s; intro w7 r_b_s hg8 _
 replace r_b_s := r_b_s.congr (g := fun j => if j < 1 then .int .i64 (16 * 2 ^ 0) else if j < 2 then .int .i64 13 else .int .i64 8) (fun j hj => by rw [if_pos ⟨Nat.zero_le _, by omega⟩]; first | rfl | (simp only [Nat.sub_zero]))
 replace r_b_2 := r_b_2.stepG hg8 om
 replace hk := thenG hk hg8 om
 refine nt (wp_seq (sr (w_mv ei (w_val (y_bin ei Ev.c (b_rem om)) (w_val (y_bin ei Ev.c b_geq) (nt (c_tt eb (wp_region_lit (w_val (v := pt b_s 1) (y_off (y_fa (ex (pt b_s 0)) (SuAT.fa23_1 _ _)) ro) (w_st (v := .int .i64 7) (ex (pt b_s 1)) Ev.c rfl rfl SuAT.sz3 r_b_s om ?_))))))))))
 clear r_b_s; intro w9 r_b_s hg10 _
 replace r_b_2 := r_b_2.stepG hg10 om
 replace hk := thenG hk hg10 om
 refine nt (sr (w_mv ei (w_val (y_bin ei Ev.c b_geq) (nt (c_ff eb (wp_skip (inb_n (then_n (sr (w_val (v := .agg (arr 3 (fun j => if j = 1 then .int .i64 7 else (fun j => if j < 1 then .int .i64 (16 * 2 ^ 0) else if j < 2 then .int .i64 13 else .int .i64 8) j))) (y_lda (ex (pt b_s 0)) SuAT.ag23 SuAT.sz23 (fun j hj => by rw [Nat.zero_add]; exact (r_b_s.cell om))) (w_sta (k := 3) (G := fun j => if j = 1 then .int .i64 7 else (fun j => if j < 1 then .int .i64 (16 * 2 ^ 0) else if j < 2 then .int .i64 13 else .int .i64 8) j) (ex (pt b_2 0)) ea oc SuAT.sz23 r_b_2 om ?_)))))))))))
 clear r_b_2; intro w11 r_b_2 hg12 _
 replace r_b_2 := r_b_2.congr (g := fun j => if j = 1 then .int .i64 7 else (fun j => if j < 1 then .int .i64 (16 * 2 ^ 0) else if j < 2 then .int .i64 13 else .int .i64 8) j) (fun j hj => by rw [if_pos ⟨Nat.zero_le _, by omega⟩]; first | rfl | (simp only [Nat.sub_zero]))
 replace r_b_s := r_b_s.stepG hg12 om
 replace hk := thenG hk hg12 om
 refine w_as Ev.c (nt (wp_ret (fin_ct (F := fun j => if j = 1 then .int .i64 7 else (fun j => if j < 1 then .int .i64 (16 * 2 ^ 0) else if j < 2 then .int .i64 13 else .int .i64 8) j) rfl (ex (pt b_2 0)) ei SuAT.ag23 SuAT.sz23 r_b_2 om ?_)))
 refine ⟨congrArg Ending.returned ?_, hk⟩
 show (.tuple #[.agg (arr 3 (fun j => if j = 1 then .int .i64 7 else (fun j => if j < 1 then .int .i64 (16 * 2 ^ 0) else if j < 2 then .int .i64 13 else .int .i64 8) j)), .int .i64 0] : Value) = .tuple #[.agg (arr 3 (fun j => if j < 1 then .int .i64 (((Su.ky 8) : Nat) : Int) else if j < 2 then .int .i64 (((Su.iv 8) : Nat) : Int) else .int .i64 (((Su.tg 8) : Nat) : Int))), .int .i64 0]
 kernel_rfl

theorem suOf_13  (w0 : World) : Calls Tryz.prog 4 #[.int .i64 13] w0 fun e w' => e = .returned (.tuple #[.agg (arr 3 (fun j => if j < 1 then .int .i64 (((Su.ky 9) : Nat) : Int) else if j < 2 then .int .i64 (((Su.iv 9) : Nat) : Int) else .int .i64 (((Su.tg 9) : Nat) : Int))), .int .i64 0]) ∧ Below w0.heap.size w0 w' := by
 refine enter (n := 76) Tryz.func4 rfl rfl rfl ?_
 have hk : Below w0.heap.size w0 w0 := Below.refl _ _
 refine sr (w_alloc (m := 3) (F := fun j => if j < 1 then .int .i64 0 else if j < 2 then .int .i64 0 else .int .i64 0) kr ?_)
 intro b_2 w1 hbe_b_2 r_b_2 hb2
 have ge_b_2 := gb_ hk.size hbe_b_2
 clear hbe_b_2
 replace hk := thenB hk hb2
 refine w_as Ev.c (nt (sr (w_val (v := .agg (arr 3 (fun j => if j < 1 then .int .i64 0 else if j < 2 then .int .i64 0 else .int .i64 0))) (y_build (vs := #[]) mp0 (fun w => by kernel_rfl)) (w_alloc (m := 3) (F := fun j => if j < 1 then .int .i64 0 else if j < 2 then .int .i64 0 else .int .i64 0) kr ?_))))
 intro b_s w3 hbe_b_s r_b_s hb4
 have ne_b_2_b_s := r_b_2.nb hbe_b_s
 have ge_b_s := gb_ hk.size hbe_b_s
 clear hbe_b_s
 replace r_b_2 := r_b_2.step hb4
 replace hk := thenB hk hb4
 refine w_sta (k := 3) (G := fun j => if j < 1 then .int .i64 0 else if j < 2 then .int .i64 0 else .int .i64 0) (ex (pt b_s 0)) ea oc SuAT.sz23 r_b_s om ?_
 clear r_b_s; intro w5 r_b_s hg6 _
 replace r_b_s := r_b_s.congr (g := fun j => if j < 1 then .int .i64 0 else if j < 2 then .int .i64 0 else .int .i64 0) (fun j hj => by rw [if_pos ⟨Nat.zero_le _, by omega⟩]; first | rfl | (simp only [Nat.sub_zero]))
 replace r_b_2 := r_b_2.stepG hg6 om
 replace hk := thenG hk hg6 om
 refine nt (wp_seq (sr (w_mv ei (nt (wp_block (wp_seq (sr (w_val (y_bin ei Ev.c b_eql) (w_as eb (nt (c_ff eb (sr (w_val (y_bin ei Ev.c b_eql) (w_as eb (nt (c_ff eb (wp_region_lit (w_val (y_bin ei Ev.c b_eql) (w_as eb (nt (c_ff eb (wp_seq (sr (w_val (y_bin ei Ev.c b_eql) (w_as eb (nt (c_ff eb (sr (w_val (y_bin ei Ev.c b_eql) (w_as eb (nt (c_ff eb (wp_region_lit (w_val (y_bin ei Ev.c b_eql) (w_as eb (nt (c_ff eb (wp_seq (sr ?_)))))))))))))))))))))))))))))))))))))))
 refine w_val (y_bin ei Ev.c b_eql) (w_as eb (nt (c_ff eb (sr (w_val (y_bin ei Ev.c b_eql) (w_as eb (nt (c_ff eb (sr (w_val (y_bin ei Ev.c b_eql) (w_as eb (nt (c_ff eb (sr (w_val (y_bin ei Ev.c b_eql) (w_as eb (nt (c_tt eb (wp_skip (then_n (c_tt eb (sr (w_mv ei (w_val (y_bin ei Ev.c (b_rem om)) (w_val (y_bin Ev.c ei (b_shl (c := 1) om om om)) (w_val (v := .agg (arr 3 (fun j => if j < 1 then .int .i64 (16 * 2 ^ 1) else if j < 2 then .int .i64 13 else .int .i64 8))) (y_build (vs := #[(0, .int .i64 (16 * 2 ^ 1)), (1, .int .i64 13), (2, .int .i64 8)]) (mp_cons ei (mp_cons Ev.c (mp_cons Ev.c mp0))) (fun w => by kernel_rfl)) (w_sta (k := 3) (G := fun j => if j < 1 then .int .i64 (16 * 2 ^ 1) else if j < 2 then .int .i64 13 else .int .i64 8) (ex (pt b_s 0)) ea oc SuAT.sz23 r_b_s om ?_)))))))))))))))))))))))))))
 clear r_b_s; intro w7 r_b_s hg8 _
 replace r_b_s := r_b_s.congr (g := fun j => if j < 1 then .int .i64 (16 * 2 ^ 1) else if j < 2 then .int .i64 13 else .int .i64 8) (fun j hj => by rw [if_pos ⟨Nat.zero_le _, by omega⟩]; first | rfl | (simp only [Nat.sub_zero]))
 replace r_b_2 := r_b_2.stepG hg8 om
 replace hk := thenG hk hg8 om
 refine nt (wp_seq (sr (w_mv ei (w_val (y_bin ei Ev.c (b_rem om)) (w_val (y_bin ei Ev.c b_geq) (nt (c_tt eb (wp_region_lit (w_val (v := pt b_s 1) (y_off (y_fa (ex (pt b_s 0)) (SuAT.fa23_1 _ _)) ro) (w_st (v := .int .i64 7) (ex (pt b_s 1)) Ev.c rfl rfl SuAT.sz3 r_b_s om ?_))))))))))
 clear r_b_s; intro w9 r_b_s hg10 _
 replace r_b_2 := r_b_2.stepG hg10 om
 replace hk := thenG hk hg10 om
 refine nt (sr (w_mv ei (w_val (y_bin ei Ev.c b_geq) (nt (c_ff eb (wp_skip (inb_n (then_n (sr (w_val (v := .agg (arr 3 (fun j => if j = 1 then .int .i64 7 else (fun j => if j < 1 then .int .i64 (16 * 2 ^ 1) else if j < 2 then .int .i64 13 else .int .i64 8) j))) (y_lda (ex (pt b_s 0)) SuAT.ag23 SuAT.sz23 (fun j hj => by rw [Nat.zero_add]; exact (r_b_s.cell om))) (w_sta (k := 3) (G := fun j => if j = 1 then .int .i64 7 else (fun j => if j < 1 then .int .i64 (16 * 2 ^ 1) else if j < 2 then .int .i64 13 else .int .i64 8) j) (ex (pt b_2 0)) ea oc SuAT.sz23 r_b_2 om ?_)))))))))))
 clear r_b_2; intro w11 r_b_2 hg12 _
 replace r_b_2 := r_b_2.congr (g := fun j => if j = 1 then .int .i64 7 else (fun j => if j < 1 then .int .i64 (16 * 2 ^ 1) else if j < 2 then .int .i64 13 else .int .i64 8) j) (fun j hj => by rw [if_pos ⟨Nat.zero_le _, by omega⟩]; first | rfl | (simp only [Nat.sub_zero]))
 replace r_b_s := r_b_s.stepG hg12 om
 replace hk := thenG hk hg12 om
 refine w_as Ev.c (nt (wp_ret (fin_ct (F := fun j => if j = 1 then .int .i64 7 else (fun j => if j < 1 then .int .i64 (16 * 2 ^ 1) else if j < 2 then .int .i64 13 else .int .i64 8) j) rfl (ex (pt b_2 0)) ei SuAT.ag23 SuAT.sz23 r_b_2 om ?_)))
 refine ⟨congrArg Ending.returned ?_, hk⟩
 show (.tuple #[.agg (arr 3 (fun j => if j = 1 then .int .i64 7 else (fun j => if j < 1 then .int .i64 (16 * 2 ^ 1) else if j < 2 then .int .i64 13 else .int .i64 8) j)), .int .i64 0] : Value) = .tuple #[.agg (arr 3 (fun j => if j < 1 then .int .i64 (((Su.ky 9) : Nat) : Int) else if j < 2 then .int .i64 (((Su.iv 9) : Nat) : Int) else .int .i64 (((Su.tg 9) : Nat) : Int))), .int .i64 0]
 kernel_rfl

theorem suOf_30  (w0 : World) : Calls Tryz.prog 4 #[.int .i64 30] w0 fun e w' => e = .returned (.tuple #[.agg (arr 3 (fun j => if j < 1 then .int .i64 (((Su.ky 10) : Nat) : Int) else if j < 2 then .int .i64 (((Su.iv 10) : Nat) : Int) else .int .i64 (((Su.tg 10) : Nat) : Int))), .int .i64 0]) ∧ Below w0.heap.size w0 w' := by
 refine enter (n := 76) Tryz.func4 rfl rfl rfl ?_
 have hk : Below w0.heap.size w0 w0 := Below.refl _ _
 refine sr (w_alloc (m := 3) (F := fun j => if j < 1 then .int .i64 0 else if j < 2 then .int .i64 0 else .int .i64 0) kr ?_)
 intro b_2 w1 hbe_b_2 r_b_2 hb2
 have ge_b_2 := gb_ hk.size hbe_b_2
 clear hbe_b_2
 replace hk := thenB hk hb2
 refine w_as Ev.c (nt (sr (w_val (v := .agg (arr 3 (fun j => if j < 1 then .int .i64 0 else if j < 2 then .int .i64 0 else .int .i64 0))) (y_build (vs := #[]) mp0 (fun w => by kernel_rfl)) (w_alloc (m := 3) (F := fun j => if j < 1 then .int .i64 0 else if j < 2 then .int .i64 0 else .int .i64 0) kr ?_))))
 intro b_s w3 hbe_b_s r_b_s hb4
 have ne_b_2_b_s := r_b_2.nb hbe_b_s
 have ge_b_s := gb_ hk.size hbe_b_s
 clear hbe_b_s
 replace r_b_2 := r_b_2.step hb4
 replace hk := thenB hk hb4
 refine w_sta (k := 3) (G := fun j => if j < 1 then .int .i64 0 else if j < 2 then .int .i64 0 else .int .i64 0) (ex (pt b_s 0)) ea oc SuAT.sz23 r_b_s om ?_
 clear r_b_s; intro w5 r_b_s hg6 _
 replace r_b_s := r_b_s.congr (g := fun j => if j < 1 then .int .i64 0 else if j < 2 then .int .i64 0 else .int .i64 0) (fun j hj => by rw [if_pos ⟨Nat.zero_le _, by omega⟩]; first | rfl | (simp only [Nat.sub_zero]))
 replace r_b_2 := r_b_2.stepG hg6 om
 replace hk := thenG hk hg6 om
 refine nt (wp_seq (sr (w_mv ei (nt (wp_block (wp_seq (sr (w_val (y_bin ei Ev.c b_eql) (w_as eb (nt (c_ff eb (sr (w_val (y_bin ei Ev.c b_eql) (w_as eb (nt (c_ff eb (wp_region_lit (w_val (y_bin ei Ev.c b_eql) (w_as eb (nt (c_ff eb (wp_seq (sr (w_val (y_bin ei Ev.c b_eql) (w_as eb (nt (c_ff eb (sr (w_val (y_bin ei Ev.c b_eql) (w_as eb (nt (c_ff eb (wp_region_lit (w_val (y_bin ei Ev.c b_eql) (w_as eb (nt (c_ff eb (wp_seq (sr ?_)))))))))))))))))))))))))))))))))))))))
 refine w_val (y_bin ei Ev.c b_eql) (w_as eb (nt (c_ff eb (sr (w_val (y_bin ei Ev.c b_eql) (w_as eb (nt (c_ff eb (sr (w_val (y_bin ei Ev.c b_eql) (w_as eb (nt (c_ff eb (sr (w_val (y_bin ei Ev.c b_eql) (w_as eb (nt (c_ff eb (sr (w_val (y_bin ei Ev.c b_eql) (w_as eb (nt (c_tt eb (wp_skip (then_n (c_tt eb (sr (w_mv ei (w_val (y_bin ei Ev.c (b_rem om)) (w_val (y_bin Ev.c ei (b_shl (c := 0) om om om)) (w_val (v := .agg (arr 3 (fun j => if j < 1 then .int .i64 (16 * 2 ^ 0) else if j < 2 then .int .i64 13 else .int .i64 8))) (y_build (vs := #[(0, .int .i64 (16 * 2 ^ 0)), (1, .int .i64 13), (2, .int .i64 8)]) (mp_cons ei (mp_cons Ev.c (mp_cons Ev.c mp0))) (fun w => by kernel_rfl)) (w_sta (k := 3) (G := fun j => if j < 1 then .int .i64 (16 * 2 ^ 0) else if j < 2 then .int .i64 13 else .int .i64 8) (ex (pt b_s 0)) ea oc SuAT.sz23 r_b_s om ?_))))))))))))))))))))))))))))))))
 clear r_b_s; intro w7 r_b_s hg8 _
 replace r_b_s := r_b_s.congr (g := fun j => if j < 1 then .int .i64 (16 * 2 ^ 0) else if j < 2 then .int .i64 13 else .int .i64 8) (fun j hj => by rw [if_pos ⟨Nat.zero_le _, by omega⟩]; first | rfl | (simp only [Nat.sub_zero]))
 replace r_b_2 := r_b_2.stepG hg8 om
 replace hk := thenG hk hg8 om
 refine nt (wp_seq (sr (w_mv ei (w_val (y_bin ei Ev.c (b_rem om)) (w_val (y_bin ei Ev.c b_geq) (nt (c_ff eb (wp_skip (then_n (sr (w_mv ei (w_val (y_bin ei Ev.c b_geq) (nt (c_tt eb (wp_region_lit (w_val (v := pt b_s 2) (y_off (y_fa (ex (pt b_s 0)) (SuAT.fa23_2 _ _)) ro) (w_st (v := .int .i64 16) (ex (pt b_s 2)) Ev.c rfl rfl SuAT.sz3 r_b_s om ?_)))))))))))))))))
 clear r_b_s; intro w9 r_b_s hg10 _
 replace r_b_2 := r_b_2.stepG hg10 om
 replace hk := thenG hk hg10 om
 refine wpList_nil (inb_n (then_n (sr (w_val (v := .agg (arr 3 (fun j => if j = 2 then .int .i64 16 else (fun j => if j < 1 then .int .i64 (16 * 2 ^ 0) else if j < 2 then .int .i64 13 else .int .i64 8) j))) (y_lda (ex (pt b_s 0)) SuAT.ag23 SuAT.sz23 (fun j hj => by rw [Nat.zero_add]; exact (r_b_s.cell om))) (w_sta (k := 3) (G := fun j => if j = 2 then .int .i64 16 else (fun j => if j < 1 then .int .i64 (16 * 2 ^ 0) else if j < 2 then .int .i64 13 else .int .i64 8) j) (ex (pt b_2 0)) ea oc SuAT.sz23 r_b_2 om ?_)))))
 clear r_b_2; intro w11 r_b_2 hg12 _
 replace r_b_2 := r_b_2.congr (g := fun j => if j = 2 then .int .i64 16 else (fun j => if j < 1 then .int .i64 (16 * 2 ^ 0) else if j < 2 then .int .i64 13 else .int .i64 8) j) (fun j hj => by rw [if_pos ⟨Nat.zero_le _, by omega⟩]; first | rfl | (simp only [Nat.sub_zero]))
 replace r_b_s := r_b_s.stepG hg12 om
 replace hk := thenG hk hg12 om
 refine w_as Ev.c (nt (wp_ret (fin_ct (F := fun j => if j = 2 then .int .i64 16 else (fun j => if j < 1 then .int .i64 (16 * 2 ^ 0) else if j < 2 then .int .i64 13 else .int .i64 8) j) rfl (ex (pt b_2 0)) ei SuAT.ag23 SuAT.sz23 r_b_2 om ?_)))
 refine ⟨congrArg Ending.returned ?_, hk⟩
 show (.tuple #[.agg (arr 3 (fun j => if j = 2 then .int .i64 16 else (fun j => if j < 1 then .int .i64 (16 * 2 ^ 0) else if j < 2 then .int .i64 13 else .int .i64 8) j)), .int .i64 0] : Value) = .tuple #[.agg (arr 3 (fun j => if j < 1 then .int .i64 (((Su.ky 10) : Nat) : Int) else if j < 2 then .int .i64 (((Su.iv 10) : Nat) : Int) else .int .i64 (((Su.tg 10) : Nat) : Int))), .int .i64 0]
 kernel_rfl

theorem suOf_31  (w0 : World) : Calls Tryz.prog 4 #[.int .i64 31] w0 fun e w' => e = .returned (.tuple #[.agg (arr 3 (fun j => if j < 1 then .int .i64 (((Su.ky 11) : Nat) : Int) else if j < 2 then .int .i64 (((Su.iv 11) : Nat) : Int) else .int .i64 (((Su.tg 11) : Nat) : Int))), .int .i64 0]) ∧ Below w0.heap.size w0 w' := by
 refine enter (n := 76) Tryz.func4 rfl rfl rfl ?_
 have hk : Below w0.heap.size w0 w0 := Below.refl _ _
 refine sr (w_alloc (m := 3) (F := fun j => if j < 1 then .int .i64 0 else if j < 2 then .int .i64 0 else .int .i64 0) kr ?_)
 intro b_2 w1 hbe_b_2 r_b_2 hb2
 have ge_b_2 := gb_ hk.size hbe_b_2
 clear hbe_b_2
 replace hk := thenB hk hb2
 refine w_as Ev.c (nt (sr (w_val (v := .agg (arr 3 (fun j => if j < 1 then .int .i64 0 else if j < 2 then .int .i64 0 else .int .i64 0))) (y_build (vs := #[]) mp0 (fun w => by kernel_rfl)) (w_alloc (m := 3) (F := fun j => if j < 1 then .int .i64 0 else if j < 2 then .int .i64 0 else .int .i64 0) kr ?_))))
 intro b_s w3 hbe_b_s r_b_s hb4
 have ne_b_2_b_s := r_b_2.nb hbe_b_s
 have ge_b_s := gb_ hk.size hbe_b_s
 clear hbe_b_s
 replace r_b_2 := r_b_2.step hb4
 replace hk := thenB hk hb4
 refine w_sta (k := 3) (G := fun j => if j < 1 then .int .i64 0 else if j < 2 then .int .i64 0 else .int .i64 0) (ex (pt b_s 0)) ea oc SuAT.sz23 r_b_s om ?_
 clear r_b_s; intro w5 r_b_s hg6 _
 replace r_b_s := r_b_s.congr (g := fun j => if j < 1 then .int .i64 0 else if j < 2 then .int .i64 0 else .int .i64 0) (fun j hj => by rw [if_pos ⟨Nat.zero_le _, by omega⟩]; first | rfl | (simp only [Nat.sub_zero]))
 replace r_b_2 := r_b_2.stepG hg6 om
 replace hk := thenG hk hg6 om
 refine nt (wp_seq (sr (w_mv ei (nt (wp_block (wp_seq (sr (w_val (y_bin ei Ev.c b_eql) (w_as eb (nt (c_ff eb (sr (w_val (y_bin ei Ev.c b_eql) (w_as eb (nt (c_ff eb (wp_region_lit (w_val (y_bin ei Ev.c b_eql) (w_as eb (nt (c_ff eb (wp_seq (sr (w_val (y_bin ei Ev.c b_eql) (w_as eb (nt (c_ff eb (sr (w_val (y_bin ei Ev.c b_eql) (w_as eb (nt (c_ff eb (wp_region_lit (w_val (y_bin ei Ev.c b_eql) (w_as eb (nt (c_ff eb (wp_seq (sr ?_)))))))))))))))))))))))))))))))))))))))
 refine w_val (y_bin ei Ev.c b_eql) (w_as eb (nt (c_ff eb (sr (w_val (y_bin ei Ev.c b_eql) (w_as eb (nt (c_ff eb (sr (w_val (y_bin ei Ev.c b_eql) (w_as eb (nt (c_ff eb (sr (w_val (y_bin ei Ev.c b_eql) (w_as eb (nt (c_ff eb (sr (w_val (y_bin ei Ev.c b_eql) (w_as eb (nt (c_ff eb (sr (w_val (y_bin ei Ev.c b_eql) (w_as eb (nt (c_tt eb (wp_skip (then_n (c_tt eb (sr (w_mv ei (w_val (y_bin ei Ev.c (b_rem om)) (w_val (y_bin Ev.c ei (b_shl (c := 1) om om om)) (w_val (v := .agg (arr 3 (fun j => if j < 1 then .int .i64 (16 * 2 ^ 1) else if j < 2 then .int .i64 13 else .int .i64 8))) (y_build (vs := #[(0, .int .i64 (16 * 2 ^ 1)), (1, .int .i64 13), (2, .int .i64 8)]) (mp_cons ei (mp_cons Ev.c (mp_cons Ev.c mp0))) (fun w => by kernel_rfl)) (w_sta (k := 3) (G := fun j => if j < 1 then .int .i64 (16 * 2 ^ 1) else if j < 2 then .int .i64 13 else .int .i64 8) (ex (pt b_s 0)) ea oc SuAT.sz23 r_b_s om ?_)))))))))))))))))))))))))))))))))))))
 clear r_b_s; intro w7 r_b_s hg8 _
 replace r_b_s := r_b_s.congr (g := fun j => if j < 1 then .int .i64 (16 * 2 ^ 1) else if j < 2 then .int .i64 13 else .int .i64 8) (fun j hj => by rw [if_pos ⟨Nat.zero_le _, by omega⟩]; first | rfl | (simp only [Nat.sub_zero]))
 replace r_b_2 := r_b_2.stepG hg8 om
 replace hk := thenG hk hg8 om
 refine nt (wp_seq (sr (w_mv ei (w_val (y_bin ei Ev.c (b_rem om)) (w_val (y_bin ei Ev.c b_geq) (nt (c_ff eb (wp_skip (then_n (sr (w_mv ei (w_val (y_bin ei Ev.c b_geq) (nt (c_tt eb (wp_region_lit (w_val (v := pt b_s 2) (y_off (y_fa (ex (pt b_s 0)) (SuAT.fa23_2 _ _)) ro) (w_st (v := .int .i64 16) (ex (pt b_s 2)) Ev.c rfl rfl SuAT.sz3 r_b_s om ?_)))))))))))))))))
 clear r_b_s; intro w9 r_b_s hg10 _
 replace r_b_2 := r_b_2.stepG hg10 om
 replace hk := thenG hk hg10 om
 refine wpList_nil (inb_n (then_n (sr (w_val (v := .agg (arr 3 (fun j => if j = 2 then .int .i64 16 else (fun j => if j < 1 then .int .i64 (16 * 2 ^ 1) else if j < 2 then .int .i64 13 else .int .i64 8) j))) (y_lda (ex (pt b_s 0)) SuAT.ag23 SuAT.sz23 (fun j hj => by rw [Nat.zero_add]; exact (r_b_s.cell om))) (w_sta (k := 3) (G := fun j => if j = 2 then .int .i64 16 else (fun j => if j < 1 then .int .i64 (16 * 2 ^ 1) else if j < 2 then .int .i64 13 else .int .i64 8) j) (ex (pt b_2 0)) ea oc SuAT.sz23 r_b_2 om ?_)))))
 clear r_b_2; intro w11 r_b_2 hg12 _
 replace r_b_2 := r_b_2.congr (g := fun j => if j = 2 then .int .i64 16 else (fun j => if j < 1 then .int .i64 (16 * 2 ^ 1) else if j < 2 then .int .i64 13 else .int .i64 8) j) (fun j hj => by rw [if_pos ⟨Nat.zero_le _, by omega⟩]; first | rfl | (simp only [Nat.sub_zero]))
 replace r_b_s := r_b_s.stepG hg12 om
 replace hk := thenG hk hg12 om
 refine w_as Ev.c (nt (wp_ret (fin_ct (F := fun j => if j = 2 then .int .i64 16 else (fun j => if j < 1 then .int .i64 (16 * 2 ^ 1) else if j < 2 then .int .i64 13 else .int .i64 8) j) rfl (ex (pt b_2 0)) ei SuAT.ag23 SuAT.sz23 r_b_2 om ?_)))
 refine ⟨congrArg Ending.returned ?_, hk⟩
 show (.tuple #[.agg (arr 3 (fun j => if j = 2 then .int .i64 16 else (fun j => if j < 1 then .int .i64 (16 * 2 ^ 1) else if j < 2 then .int .i64 13 else .int .i64 8) j)), .int .i64 0] : Value) = .tuple #[.agg (arr 3 (fun j => if j < 1 then .int .i64 (((Su.ky 11) : Nat) : Int) else if j < 2 then .int .i64 (((Su.iv 11) : Nat) : Int) else .int .i64 (((Su.tg 11) : Nat) : Int))), .int .i64 0]
 kernel_rfl

theorem suOf_32  (w0 : World) : Calls Tryz.prog 4 #[.int .i64 32] w0 fun e w' => e = .returned (.tuple #[.agg (arr 3 (fun j => if j < 1 then .int .i64 (((Su.ky 12) : Nat) : Int) else if j < 2 then .int .i64 (((Su.iv 12) : Nat) : Int) else .int .i64 (((Su.tg 12) : Nat) : Int))), .int .i64 0]) ∧ Below w0.heap.size w0 w' := by
 refine enter (n := 76) Tryz.func4 rfl rfl rfl ?_
 have hk : Below w0.heap.size w0 w0 := Below.refl _ _
 refine sr (w_alloc (m := 3) (F := fun j => if j < 1 then .int .i64 0 else if j < 2 then .int .i64 0 else .int .i64 0) kr ?_)
 intro b_2 w1 hbe_b_2 r_b_2 hb2
 have ge_b_2 := gb_ hk.size hbe_b_2
 clear hbe_b_2
 replace hk := thenB hk hb2
 refine w_as Ev.c (nt (sr (w_val (v := .agg (arr 3 (fun j => if j < 1 then .int .i64 0 else if j < 2 then .int .i64 0 else .int .i64 0))) (y_build (vs := #[]) mp0 (fun w => by kernel_rfl)) (w_alloc (m := 3) (F := fun j => if j < 1 then .int .i64 0 else if j < 2 then .int .i64 0 else .int .i64 0) kr ?_))))
 intro b_s w3 hbe_b_s r_b_s hb4
 have ne_b_2_b_s := r_b_2.nb hbe_b_s
 have ge_b_s := gb_ hk.size hbe_b_s
 clear hbe_b_s
 replace r_b_2 := r_b_2.step hb4
 replace hk := thenB hk hb4
 refine w_sta (k := 3) (G := fun j => if j < 1 then .int .i64 0 else if j < 2 then .int .i64 0 else .int .i64 0) (ex (pt b_s 0)) ea oc SuAT.sz23 r_b_s om ?_
 clear r_b_s; intro w5 r_b_s hg6 _
 replace r_b_s := r_b_s.congr (g := fun j => if j < 1 then .int .i64 0 else if j < 2 then .int .i64 0 else .int .i64 0) (fun j hj => by rw [if_pos ⟨Nat.zero_le _, by omega⟩]; first | rfl | (simp only [Nat.sub_zero]))
 replace r_b_2 := r_b_2.stepG hg6 om
 replace hk := thenG hk hg6 om
 refine nt (wp_seq (sr (w_mv ei (nt (wp_block (wp_seq (sr (w_val (y_bin ei Ev.c b_eql) (w_as eb (nt (c_ff eb (sr (w_val (y_bin ei Ev.c b_eql) (w_as eb (nt (c_ff eb (wp_region_lit (w_val (y_bin ei Ev.c b_eql) (w_as eb (nt (c_ff eb (wp_seq (sr (w_val (y_bin ei Ev.c b_eql) (w_as eb (nt (c_ff eb (sr (w_val (y_bin ei Ev.c b_eql) (w_as eb (nt (c_ff eb (wp_region_lit (w_val (y_bin ei Ev.c b_eql) (w_as eb (nt (c_ff eb (wp_seq (sr ?_)))))))))))))))))))))))))))))))))))))))
 refine w_val (y_bin ei Ev.c b_eql) (w_as eb (nt (c_ff eb (sr (w_val (y_bin ei Ev.c b_eql) (w_as eb (nt (c_ff eb (sr (w_val (y_bin ei Ev.c b_eql) (w_as eb (nt (c_ff eb (sr (w_val (y_bin ei Ev.c b_eql) (w_as eb (nt (c_ff eb (sr (w_val (y_bin ei Ev.c b_eql) (w_as eb (nt (c_ff eb (sr (w_val (y_bin ei Ev.c b_eql) (w_as eb (nt (c_ff eb (sr (w_val (y_bin ei Ev.c b_eql) (w_as eb (nt (c_tt eb (wp_skip (then_n (c_tt eb (sr (w_mv ei (w_val (y_bin ei Ev.c (b_rem om)) ?_)))))))))))))))))))))))))))))))))))))))
 refine w_val (y_bin Ev.c ei (b_shl (c := 0) om om om)) (w_val (v := .agg (arr 3 (fun j => if j < 1 then .int .i64 (16 * 2 ^ 0) else if j < 2 then .int .i64 13 else .int .i64 8))) (y_build (vs := #[(0, .int .i64 (16 * 2 ^ 0)), (1, .int .i64 13), (2, .int .i64 8)]) (mp_cons ei (mp_cons Ev.c (mp_cons Ev.c mp0))) (fun w => by kernel_rfl)) (w_sta (k := 3) (G := fun j => if j < 1 then .int .i64 (16 * 2 ^ 0) else if j < 2 then .int .i64 13 else .int .i64 8) (ex (pt b_s 0)) ea oc SuAT.sz23 r_b_s om ?_))
 clear r_b_s; intro w7 r_b_s hg8 _
 replace r_b_s := r_b_s.congr (g := fun j => if j < 1 then .int .i64 (16 * 2 ^ 0) else if j < 2 then .int .i64 13 else .int .i64 8) (fun j hj => by rw [if_pos ⟨Nat.zero_le _, by omega⟩]; first | rfl | (simp only [Nat.sub_zero]))
 replace r_b_2 := r_b_2.stepG hg8 om
 replace hk := thenG hk hg8 om
 refine nt (wp_seq (sr (w_mv ei (w_val (y_bin ei Ev.c (b_rem om)) (w_val (y_bin ei Ev.c b_geq) (nt (c_tt eb (wp_region_lit (w_val (v := pt b_s 1) (y_off (y_fa (ex (pt b_s 0)) (SuAT.fa23_1 _ _)) ro) (w_st (v := .int .i64 7) (ex (pt b_s 1)) Ev.c rfl rfl SuAT.sz3 r_b_s om ?_))))))))))
 clear r_b_s; intro w9 r_b_s hg10 _
 replace r_b_2 := r_b_2.stepG hg10 om
 replace hk := thenG hk hg10 om
 refine nt (sr (w_mv ei (w_val (y_bin ei Ev.c b_geq) (nt (c_tt eb (wp_region_lit (w_val (v := pt b_s 2) (y_off (y_fa (ex (pt b_s 0)) (SuAT.fa23_2 _ _)) ro) (w_st (v := .int .i64 16) (ex (pt b_s 2)) Ev.c rfl rfl SuAT.sz3 r_b_s om ?_))))))))
 clear r_b_s; intro w11 r_b_s hg12 _
 replace r_b_2 := r_b_2.stepG hg12 om
 replace hk := thenG hk hg12 om
 refine wpList_nil (inb_n (then_n (sr (w_val (v := .agg (arr 3 (fun j => if j = 2 then .int .i64 16 else (fun j => if j = 1 then .int .i64 7 else (fun j => if j < 1 then .int .i64 (16 * 2 ^ 0) else if j < 2 then .int .i64 13 else .int .i64 8) j) j))) (y_lda (ex (pt b_s 0)) SuAT.ag23 SuAT.sz23 (fun j hj => by rw [Nat.zero_add]; exact (r_b_s.cell om))) (w_sta (k := 3) (G := fun j => if j = 2 then .int .i64 16 else (fun j => if j = 1 then .int .i64 7 else (fun j => if j < 1 then .int .i64 (16 * 2 ^ 0) else if j < 2 then .int .i64 13 else .int .i64 8) j) j) (ex (pt b_2 0)) ea oc SuAT.sz23 r_b_2 om ?_)))))
 clear r_b_2; intro w13 r_b_2 hg14 _
 replace r_b_2 := r_b_2.congr (g := fun j => if j = 2 then .int .i64 16 else (fun j => if j = 1 then .int .i64 7 else (fun j => if j < 1 then .int .i64 (16 * 2 ^ 0) else if j < 2 then .int .i64 13 else .int .i64 8) j) j) (fun j hj => by rw [if_pos ⟨Nat.zero_le _, by omega⟩]; first | rfl | (simp only [Nat.sub_zero]))
 replace r_b_s := r_b_s.stepG hg14 om
 replace hk := thenG hk hg14 om
 refine w_as Ev.c (nt (wp_ret (fin_ct (F := fun j => if j = 2 then .int .i64 16 else (fun j => if j = 1 then .int .i64 7 else (fun j => if j < 1 then .int .i64 (16 * 2 ^ 0) else if j < 2 then .int .i64 13 else .int .i64 8) j) j) rfl (ex (pt b_2 0)) ei SuAT.ag23 SuAT.sz23 r_b_2 om ?_)))
 refine ⟨congrArg Ending.returned ?_, hk⟩
 show (.tuple #[.agg (arr 3 (fun j => if j = 2 then .int .i64 16 else (fun j => if j = 1 then .int .i64 7 else (fun j => if j < 1 then .int .i64 (16 * 2 ^ 0) else if j < 2 then .int .i64 13 else .int .i64 8) j) j)), .int .i64 0] : Value) = .tuple #[.agg (arr 3 (fun j => if j < 1 then .int .i64 (((Su.ky 12) : Nat) : Int) else if j < 2 then .int .i64 (((Su.iv 12) : Nat) : Int) else .int .i64 (((Su.tg 12) : Nat) : Int))), .int .i64 0]
 kernel_rfl

theorem suOf_33  (w0 : World) : Calls Tryz.prog 4 #[.int .i64 33] w0 fun e w' => e = .returned (.tuple #[.agg (arr 3 (fun j => if j < 1 then .int .i64 (((Su.ky 13) : Nat) : Int) else if j < 2 then .int .i64 (((Su.iv 13) : Nat) : Int) else .int .i64 (((Su.tg 13) : Nat) : Int))), .int .i64 0]) ∧ Below w0.heap.size w0 w' := by
 refine enter (n := 76) Tryz.func4 rfl rfl rfl ?_
 have hk : Below w0.heap.size w0 w0 := Below.refl _ _
 refine sr (w_alloc (m := 3) (F := fun j => if j < 1 then .int .i64 0 else if j < 2 then .int .i64 0 else .int .i64 0) kr ?_)
 intro b_2 w1 hbe_b_2 r_b_2 hb2
 have ge_b_2 := gb_ hk.size hbe_b_2
 clear hbe_b_2
 replace hk := thenB hk hb2
 refine w_as Ev.c (nt (sr (w_val (v := .agg (arr 3 (fun j => if j < 1 then .int .i64 0 else if j < 2 then .int .i64 0 else .int .i64 0))) (y_build (vs := #[]) mp0 (fun w => by kernel_rfl)) (w_alloc (m := 3) (F := fun j => if j < 1 then .int .i64 0 else if j < 2 then .int .i64 0 else .int .i64 0) kr ?_))))
 intro b_s w3 hbe_b_s r_b_s hb4
 have ne_b_2_b_s := r_b_2.nb hbe_b_s
 have ge_b_s := gb_ hk.size hbe_b_s
 clear hbe_b_s
 replace r_b_2 := r_b_2.step hb4
 replace hk := thenB hk hb4
 refine w_sta (k := 3) (G := fun j => if j < 1 then .int .i64 0 else if j < 2 then .int .i64 0 else .int .i64 0) (ex (pt b_s 0)) ea oc SuAT.sz23 r_b_s om ?_
 clear r_b_s; intro w5 r_b_s hg6 _
 replace r_b_s := r_b_s.congr (g := fun j => if j < 1 then .int .i64 0 else if j < 2 then .int .i64 0 else .int .i64 0) (fun j hj => by rw [if_pos ⟨Nat.zero_le _, by omega⟩]; first | rfl | (simp only [Nat.sub_zero]))
 replace r_b_2 := r_b_2.stepG hg6 om
 replace hk := thenG hk hg6 om
 refine nt (wp_seq (sr (w_mv ei (nt (wp_block (wp_seq (sr (w_val (y_bin ei Ev.c b_eql) (w_as eb (nt (c_ff eb (sr (w_val (y_bin ei Ev.c b_eql) (w_as eb (nt (c_ff eb (wp_region_lit (w_val (y_bin ei Ev.c b_eql) (w_as eb (nt (c_ff eb (wp_seq (sr (w_val (y_bin ei Ev.c b_eql) (w_as eb (nt (c_ff eb (sr (w_val (y_bin ei Ev.c b_eql) (w_as eb (nt (c_ff eb (wp_region_lit (w_val (y_bin ei Ev.c b_eql) (w_as eb (nt (c_ff eb (wp_seq (sr ?_)))))))))))))))))))))))))))))))))))))))
 refine w_val (y_bin ei Ev.c b_eql) (w_as eb (nt (c_ff eb (sr (w_val (y_bin ei Ev.c b_eql) (w_as eb (nt (c_ff eb (sr (w_val (y_bin ei Ev.c b_eql) (w_as eb (nt (c_ff eb (sr (w_val (y_bin ei Ev.c b_eql) (w_as eb (nt (c_ff eb (sr (w_val (y_bin ei Ev.c b_eql) (w_as eb (nt (c_ff eb (sr (w_val (y_bin ei Ev.c b_eql) (w_as eb (nt (c_ff eb (sr (w_val (y_bin ei Ev.c b_eql) (w_as eb (nt (c_ff eb (wp_region_lit (w_val (y_bin ei Ev.c b_eql) (w_as eb (nt (c_tt eb (sr ?_)))))))))))))))))))))))))))))))))))))))
 refine w_mv ei (w_val (y_bin ei Ev.c (b_rem om)) (w_val (y_bin Ev.c ei (b_shl (c := 1) om om om)) (w_val (v := .agg (arr 3 (fun j => if j < 1 then .int .i64 (16 * 2 ^ 1) else if j < 2 then .int .i64 13 else .int .i64 8))) (y_build (vs := #[(0, .int .i64 (16 * 2 ^ 1)), (1, .int .i64 13), (2, .int .i64 8)]) (mp_cons ei (mp_cons Ev.c (mp_cons Ev.c mp0))) (fun w => by kernel_rfl)) (w_sta (k := 3) (G := fun j => if j < 1 then .int .i64 (16 * 2 ^ 1) else if j < 2 then .int .i64 13 else .int .i64 8) (ex (pt b_s 0)) ea oc SuAT.sz23 r_b_s om ?_))))
 clear r_b_s; intro w7 r_b_s hg8 _
 replace r_b_s := r_b_s.congr (g := fun j => if j < 1 then .int .i64 (16 * 2 ^ 1) else if j < 2 then .int .i64 13 else .int .i64 8) (fun j hj => by rw [if_pos ⟨Nat.zero_le _, by omega⟩]; first | rfl | (simp only [Nat.sub_zero]))
 replace r_b_2 := r_b_2.stepG hg8 om
 replace hk := thenG hk hg8 om
 refine nt (wp_seq (sr (w_mv ei (w_val (y_bin ei Ev.c (b_rem om)) (w_val (y_bin ei Ev.c b_geq) (nt (c_tt eb (wp_region_lit (w_val (v := pt b_s 1) (y_off (y_fa (ex (pt b_s 0)) (SuAT.fa23_1 _ _)) ro) (w_st (v := .int .i64 7) (ex (pt b_s 1)) Ev.c rfl rfl SuAT.sz3 r_b_s om ?_))))))))))
 clear r_b_s; intro w9 r_b_s hg10 _
 replace r_b_2 := r_b_2.stepG hg10 om
 replace hk := thenG hk hg10 om
 refine nt (sr (w_mv ei (w_val (y_bin ei Ev.c b_geq) (nt (c_tt eb (wp_region_lit (w_val (v := pt b_s 2) (y_off (y_fa (ex (pt b_s 0)) (SuAT.fa23_2 _ _)) ro) (w_st (v := .int .i64 16) (ex (pt b_s 2)) Ev.c rfl rfl SuAT.sz3 r_b_s om ?_))))))))
 clear r_b_s; intro w11 r_b_s hg12 _
 replace r_b_2 := r_b_2.stepG hg12 om
 replace hk := thenG hk hg12 om
 refine wpList_nil (inb_n (then_n (sr (w_val (v := .agg (arr 3 (fun j => if j = 2 then .int .i64 16 else (fun j => if j = 1 then .int .i64 7 else (fun j => if j < 1 then .int .i64 (16 * 2 ^ 1) else if j < 2 then .int .i64 13 else .int .i64 8) j) j))) (y_lda (ex (pt b_s 0)) SuAT.ag23 SuAT.sz23 (fun j hj => by rw [Nat.zero_add]; exact (r_b_s.cell om))) (w_sta (k := 3) (G := fun j => if j = 2 then .int .i64 16 else (fun j => if j = 1 then .int .i64 7 else (fun j => if j < 1 then .int .i64 (16 * 2 ^ 1) else if j < 2 then .int .i64 13 else .int .i64 8) j) j) (ex (pt b_2 0)) ea oc SuAT.sz23 r_b_2 om ?_)))))
 clear r_b_2; intro w13 r_b_2 hg14 _
 replace r_b_2 := r_b_2.congr (g := fun j => if j = 2 then .int .i64 16 else (fun j => if j = 1 then .int .i64 7 else (fun j => if j < 1 then .int .i64 (16 * 2 ^ 1) else if j < 2 then .int .i64 13 else .int .i64 8) j) j) (fun j hj => by rw [if_pos ⟨Nat.zero_le _, by omega⟩]; first | rfl | (simp only [Nat.sub_zero]))
 replace r_b_s := r_b_s.stepG hg14 om
 replace hk := thenG hk hg14 om
 refine w_as Ev.c (nt (wp_ret (fin_ct (F := fun j => if j = 2 then .int .i64 16 else (fun j => if j = 1 then .int .i64 7 else (fun j => if j < 1 then .int .i64 (16 * 2 ^ 1) else if j < 2 then .int .i64 13 else .int .i64 8) j) j) rfl (ex (pt b_2 0)) ei SuAT.ag23 SuAT.sz23 r_b_2 om ?_)))
 refine ⟨congrArg Ending.returned ?_, hk⟩
 show (.tuple #[.agg (arr 3 (fun j => if j = 2 then .int .i64 16 else (fun j => if j = 1 then .int .i64 7 else (fun j => if j < 1 then .int .i64 (16 * 2 ^ 1) else if j < 2 then .int .i64 13 else .int .i64 8) j) j)), .int .i64 0] : Value) = .tuple #[.agg (arr 3 (fun j => if j < 1 then .int .i64 (((Su.ky 13) : Nat) : Int) else if j < 2 then .int .i64 (((Su.iv 13) : Nat) : Int) else .int .i64 (((Su.tg 13) : Nat) : Int))), .int .i64 0]
 kernel_rfl

theorem suOf_104  (w0 : World) : Calls Tryz.prog 4 #[.int .i64 104] w0 fun e w' => e = .returned (.tuple #[.agg (arr 3 (fun j => if j < 1 then .int .i64 (((Su.ky 14) : Nat) : Int) else if j < 2 then .int .i64 (((Su.iv 14) : Nat) : Int) else .int .i64 (((Su.tg 14) : Nat) : Int))), .int .i64 0]) ∧ Below w0.heap.size w0 w' := by
 refine enter (n := 76) Tryz.func4 rfl rfl rfl ?_
 have hk : Below w0.heap.size w0 w0 := Below.refl _ _
 refine sr (w_alloc (m := 3) (F := fun j => if j < 1 then .int .i64 0 else if j < 2 then .int .i64 0 else .int .i64 0) kr ?_)
 intro b_2 w1 hbe_b_2 r_b_2 hb2
 have ge_b_2 := gb_ hk.size hbe_b_2
 clear hbe_b_2
 replace hk := thenB hk hb2
 refine w_as Ev.c (nt (sr (w_val (v := .agg (arr 3 (fun j => if j < 1 then .int .i64 0 else if j < 2 then .int .i64 0 else .int .i64 0))) (y_build (vs := #[]) mp0 (fun w => by kernel_rfl)) (w_alloc (m := 3) (F := fun j => if j < 1 then .int .i64 0 else if j < 2 then .int .i64 0 else .int .i64 0) kr ?_))))
 intro b_s w3 hbe_b_s r_b_s hb4
 have ne_b_2_b_s := r_b_2.nb hbe_b_s
 have ge_b_s := gb_ hk.size hbe_b_s
 clear hbe_b_s
 replace r_b_2 := r_b_2.step hb4
 replace hk := thenB hk hb4
 refine w_sta (k := 3) (G := fun j => if j < 1 then .int .i64 0 else if j < 2 then .int .i64 0 else .int .i64 0) (ex (pt b_s 0)) ea oc SuAT.sz23 r_b_s om ?_
 clear r_b_s; intro w5 r_b_s hg6 _
 replace r_b_s := r_b_s.congr (g := fun j => if j < 1 then .int .i64 0 else if j < 2 then .int .i64 0 else .int .i64 0) (fun j hj => by rw [if_pos ⟨Nat.zero_le _, by omega⟩]; first | rfl | (simp only [Nat.sub_zero]))
 replace r_b_2 := r_b_2.stepG hg6 om
 replace hk := thenG hk hg6 om
 refine nt (wp_seq (sr (w_mv ei (nt (wp_block (wp_seq (sr (w_val (y_bin ei Ev.c b_eql) (w_as eb (nt (c_ff eb (sr (w_val (y_bin ei Ev.c b_eql) (w_as eb (nt (c_ff eb (wp_region_lit (w_val (y_bin ei Ev.c b_eql) (w_as eb (nt (c_ff eb (wp_seq (sr (w_val (y_bin ei Ev.c b_eql) (w_as eb (nt (c_ff eb (sr (w_val (y_bin ei Ev.c b_eql) (w_as eb (nt (c_ff eb (wp_region_lit (w_val (y_bin ei Ev.c b_eql) (w_as eb (nt (c_ff eb (wp_seq (sr ?_)))))))))))))))))))))))))))))))))))))))
 refine w_val (y_bin ei Ev.c b_eql) (w_as eb (nt (c_ff eb (sr (w_val (y_bin ei Ev.c b_eql) (w_as eb (nt (c_ff eb (sr (w_val (y_bin ei Ev.c b_eql) (w_as eb (nt (c_ff eb (sr (w_val (y_bin ei Ev.c b_eql) (w_as eb (nt (c_ff eb (sr (w_val (y_bin ei Ev.c b_eql) (w_as eb (nt (c_ff eb (sr (w_val (y_bin ei Ev.c b_eql) (w_as eb (nt (c_ff eb (sr (w_val (y_bin ei Ev.c b_eql) (w_as eb (nt (c_ff eb (wp_region_lit (w_val (y_bin ei Ev.c b_eql) (w_as eb (nt (c_ff eb (sr ?_)))))))))))))))))))))))))))))))))))))))
 refine w_val (y_bin ei Ev.c b_eql) (w_as eb (nt (c_tt eb (wp_region_lit (w_val (v := .agg (arr 3 (fun j => if j < 1 then .int .i64 32 else if j < 2 then .int .i64 0 else .int .i64 8))) (y_build (vs := #[(0, .int .i64 32), (2, .int .i64 8)]) (mp_cons Ev.c (mp_cons Ev.c mp0)) (fun w => by kernel_rfl)) (w_sta (k := 3) (G := fun j => if j < 1 then .int .i64 32 else if j < 2 then .int .i64 0 else .int .i64 8) (ex (pt b_s 0)) ea oc SuAT.sz23 r_b_s om ?_))))))
 clear r_b_s; intro w7 r_b_s hg8 _
 replace r_b_s := r_b_s.congr (g := fun j => if j < 1 then .int .i64 32 else if j < 2 then .int .i64 0 else .int .i64 8) (fun j hj => by rw [if_pos ⟨Nat.zero_le _, by omega⟩]; first | rfl | (simp only [Nat.sub_zero]))
 replace r_b_2 := r_b_2.stepG hg8 om
 replace hk := thenG hk hg8 om
 refine wpList_nil (inb_n (then_n (sr (w_val (v := .agg (arr 3 (fun j => if j < 1 then .int .i64 32 else if j < 2 then .int .i64 0 else .int .i64 8))) (y_lda (ex (pt b_s 0)) SuAT.ag23 SuAT.sz23 (fun j hj => by rw [Nat.zero_add]; exact (r_b_s.cell om))) (w_sta (k := 3) (G := fun j => if j < 1 then .int .i64 32 else if j < 2 then .int .i64 0 else .int .i64 8) (ex (pt b_2 0)) ea oc SuAT.sz23 r_b_2 om ?_)))))
 clear r_b_2; intro w9 r_b_2 hg10 _
 replace r_b_2 := r_b_2.congr (g := fun j => if j < 1 then .int .i64 32 else if j < 2 then .int .i64 0 else .int .i64 8) (fun j hj => by rw [if_pos ⟨Nat.zero_le _, by omega⟩]; first | rfl | (simp only [Nat.sub_zero]))
 replace r_b_s := r_b_s.stepG hg10 om
 replace hk := thenG hk hg10 om
 refine w_as Ev.c (nt (wp_ret (fin_ct (F := fun j => if j < 1 then .int .i64 32 else if j < 2 then .int .i64 0 else .int .i64 8) rfl (ex (pt b_2 0)) ei SuAT.ag23 SuAT.sz23 r_b_2 om ?_)))
 refine ⟨congrArg Ending.returned ?_, hk⟩
 show (.tuple #[.agg (arr 3 (fun j => if j < 1 then .int .i64 32 else if j < 2 then .int .i64 0 else .int .i64 8)), .int .i64 0] : Value) = .tuple #[.agg (arr 3 (fun j => if j < 1 then .int .i64 (((Su.ky 14) : Nat) : Int) else if j < 2 then .int .i64 (((Su.iv 14) : Nat) : Int) else .int .i64 (((Su.tg 14) : Nat) : Int))), .int .i64 0]
 kernel_rfl

theorem suOf_105  (w0 : World) : Calls Tryz.prog 4 #[.int .i64 105] w0 fun e w' => e = .returned (.tuple #[.agg (arr 3 (fun j => if j < 1 then .int .i64 (((Su.ky 15) : Nat) : Int) else if j < 2 then .int .i64 (((Su.iv 15) : Nat) : Int) else .int .i64 (((Su.tg 15) : Nat) : Int))), .int .i64 0]) ∧ Below w0.heap.size w0 w' := by
 refine enter (n := 76) Tryz.func4 rfl rfl rfl ?_
 have hk : Below w0.heap.size w0 w0 := Below.refl _ _
 refine sr (w_alloc (m := 3) (F := fun j => if j < 1 then .int .i64 0 else if j < 2 then .int .i64 0 else .int .i64 0) kr ?_)
 intro b_2 w1 hbe_b_2 r_b_2 hb2
 have ge_b_2 := gb_ hk.size hbe_b_2
 clear hbe_b_2
 replace hk := thenB hk hb2
 refine w_as Ev.c (nt (sr (w_val (v := .agg (arr 3 (fun j => if j < 1 then .int .i64 0 else if j < 2 then .int .i64 0 else .int .i64 0))) (y_build (vs := #[]) mp0 (fun w => by kernel_rfl)) (w_alloc (m := 3) (F := fun j => if j < 1 then .int .i64 0 else if j < 2 then .int .i64 0 else .int .i64 0) kr ?_))))
 intro b_s w3 hbe_b_s r_b_s hb4
 have ne_b_2_b_s := r_b_2.nb hbe_b_s
 have ge_b_s := gb_ hk.size hbe_b_s
 clear hbe_b_s
 replace r_b_2 := r_b_2.step hb4
 replace hk := thenB hk hb4
 refine w_sta (k := 3) (G := fun j => if j < 1 then .int .i64 0 else if j < 2 then .int .i64 0 else .int .i64 0) (ex (pt b_s 0)) ea oc SuAT.sz23 r_b_s om ?_
 clear r_b_s; intro w5 r_b_s hg6 _
 replace r_b_s := r_b_s.congr (g := fun j => if j < 1 then .int .i64 0 else if j < 2 then .int .i64 0 else .int .i64 0) (fun j hj => by rw [if_pos ⟨Nat.zero_le _, by omega⟩]; first | rfl | (simp only [Nat.sub_zero]))
 replace r_b_2 := r_b_2.stepG hg6 om
 replace hk := thenG hk hg6 om
 refine nt (wp_seq (sr (w_mv ei (nt (wp_block (wp_seq (sr (w_val (y_bin ei Ev.c b_eql) (w_as eb (nt (c_ff eb (sr (w_val (y_bin ei Ev.c b_eql) (w_as eb (nt (c_ff eb (wp_region_lit (w_val (y_bin ei Ev.c b_eql) (w_as eb (nt (c_ff eb (wp_seq (sr (w_val (y_bin ei Ev.c b_eql) (w_as eb (nt (c_ff eb (sr (w_val (y_bin ei Ev.c b_eql) (w_as eb (nt (c_ff eb (wp_region_lit (w_val (y_bin ei Ev.c b_eql) (w_as eb (nt (c_ff eb (wp_seq (sr ?_)))))))))))))))))))))))))))))))))))))))
 refine w_val (y_bin ei Ev.c b_eql) (w_as eb (nt (c_ff eb (sr (w_val (y_bin ei Ev.c b_eql) (w_as eb (nt (c_ff eb (sr (w_val (y_bin ei Ev.c b_eql) (w_as eb (nt (c_ff eb (sr (w_val (y_bin ei Ev.c b_eql) (w_as eb (nt (c_ff eb (sr (w_val (y_bin ei Ev.c b_eql) (w_as eb (nt (c_ff eb (sr (w_val (y_bin ei Ev.c b_eql) (w_as eb (nt (c_ff eb (sr (w_val (y_bin ei Ev.c b_eql) (w_as eb (nt (c_ff eb (wp_region_lit (w_val (y_bin ei Ev.c b_eql) (w_as eb (nt (c_ff eb (sr ?_)))))))))))))))))))))))))))))))))))))))
 refine w_val (y_bin ei Ev.c b_eql) (w_as eb (nt (c_ff eb (wp_seq (sr (w_val (y_bin ei Ev.c b_eql) (w_as eb (nt (c_tt eb (wp_skip (then_n (c_tt eb (wp_region_lit (w_mv ei (w_val (y_bin ei Ev.c (b_sub om)) (w_val (y_bin Ev.c ei (b_mul om)) (w_mv ei (w_val (y_bin ei Ev.c (b_sub om)) (w_val (y_bin Ev.c ei (b_mul om)) (w_val (v := .agg (arr 3 (fun j => if j < 1 then .int .i64 32 else if j < 2 then .int .i64 0 else .int .i64 32))) (y_build (vs := #[(0, .int .i64 32), (2, .int .i64 32)]) (mp_cons ei (mp_cons ei mp0)) (fun w => by kernel_rfl)) (w_sta (k := 3) (G := fun j => if j < 1 then .int .i64 32 else if j < 2 then .int .i64 0 else .int .i64 32) (ex (pt b_s 0)) ea oc SuAT.sz23 r_b_s om ?_)))))))))))))))))))))
 clear r_b_s; intro w7 r_b_s hg8 _
 replace r_b_s := r_b_s.congr (g := fun j => if j < 1 then .int .i64 32 else if j < 2 then .int .i64 0 else .int .i64 32) (fun j hj => by rw [if_pos ⟨Nat.zero_le _, by omega⟩]; first | rfl | (simp only [Nat.sub_zero]))
 replace r_b_2 := r_b_2.stepG hg8 om
 replace hk := thenG hk hg8 om
 refine wpList_nil (inb_n (then_n (sr (w_val (v := .agg (arr 3 (fun j => if j < 1 then .int .i64 32 else if j < 2 then .int .i64 0 else .int .i64 32))) (y_lda (ex (pt b_s 0)) SuAT.ag23 SuAT.sz23 (fun j hj => by rw [Nat.zero_add]; exact (r_b_s.cell om))) (w_sta (k := 3) (G := fun j => if j < 1 then .int .i64 32 else if j < 2 then .int .i64 0 else .int .i64 32) (ex (pt b_2 0)) ea oc SuAT.sz23 r_b_2 om ?_)))))
 clear r_b_2; intro w9 r_b_2 hg10 _
 replace r_b_2 := r_b_2.congr (g := fun j => if j < 1 then .int .i64 32 else if j < 2 then .int .i64 0 else .int .i64 32) (fun j hj => by rw [if_pos ⟨Nat.zero_le _, by omega⟩]; first | rfl | (simp only [Nat.sub_zero]))
 replace r_b_s := r_b_s.stepG hg10 om
 replace hk := thenG hk hg10 om
 refine w_as Ev.c (nt (wp_ret (fin_ct (F := fun j => if j < 1 then .int .i64 32 else if j < 2 then .int .i64 0 else .int .i64 32) rfl (ex (pt b_2 0)) ei SuAT.ag23 SuAT.sz23 r_b_2 om ?_)))
 refine ⟨congrArg Ending.returned ?_, hk⟩
 show (.tuple #[.agg (arr 3 (fun j => if j < 1 then .int .i64 32 else if j < 2 then .int .i64 0 else .int .i64 32)), .int .i64 0] : Value) = .tuple #[.agg (arr 3 (fun j => if j < 1 then .int .i64 (((Su.ky 15) : Nat) : Int) else if j < 2 then .int .i64 (((Su.iv 15) : Nat) : Int) else .int .i64 (((Su.tg 15) : Nat) : Int))), .int .i64 0]
 kernel_rfl

theorem suOf_106  (w0 : World) : Calls Tryz.prog 4 #[.int .i64 106] w0 fun e w' => e = .returned (.tuple #[.agg (arr 3 (fun j => if j < 1 then .int .i64 (((Su.ky 16) : Nat) : Int) else if j < 2 then .int .i64 (((Su.iv 16) : Nat) : Int) else .int .i64 (((Su.tg 16) : Nat) : Int))), .int .i64 0]) ∧ Below w0.heap.size w0 w' := by
 refine enter (n := 76) Tryz.func4 rfl rfl rfl ?_
 have hk : Below w0.heap.size w0 w0 := Below.refl _ _
 refine sr (w_alloc (m := 3) (F := fun j => if j < 1 then .int .i64 0 else if j < 2 then .int .i64 0 else .int .i64 0) kr ?_)
 intro b_2 w1 hbe_b_2 r_b_2 hb2
 have ge_b_2 := gb_ hk.size hbe_b_2
 clear hbe_b_2
 replace hk := thenB hk hb2
 refine w_as Ev.c (nt (sr (w_val (v := .agg (arr 3 (fun j => if j < 1 then .int .i64 0 else if j < 2 then .int .i64 0 else .int .i64 0))) (y_build (vs := #[]) mp0 (fun w => by kernel_rfl)) (w_alloc (m := 3) (F := fun j => if j < 1 then .int .i64 0 else if j < 2 then .int .i64 0 else .int .i64 0) kr ?_))))
 intro b_s w3 hbe_b_s r_b_s hb4
 have ne_b_2_b_s := r_b_2.nb hbe_b_s
 have ge_b_s := gb_ hk.size hbe_b_s
 clear hbe_b_s
 replace r_b_2 := r_b_2.step hb4
 replace hk := thenB hk hb4
 refine w_sta (k := 3) (G := fun j => if j < 1 then .int .i64 0 else if j < 2 then .int .i64 0 else .int .i64 0) (ex (pt b_s 0)) ea oc SuAT.sz23 r_b_s om ?_
 clear r_b_s; intro w5 r_b_s hg6 _
 replace r_b_s := r_b_s.congr (g := fun j => if j < 1 then .int .i64 0 else if j < 2 then .int .i64 0 else .int .i64 0) (fun j hj => by rw [if_pos ⟨Nat.zero_le _, by omega⟩]; first | rfl | (simp only [Nat.sub_zero]))
 replace r_b_2 := r_b_2.stepG hg6 om
 replace hk := thenG hk hg6 om
 refine nt (wp_seq (sr (w_mv ei (nt (wp_block (wp_seq (sr (w_val (y_bin ei Ev.c b_eql) (w_as eb (nt (c_ff eb (sr (w_val (y_bin ei Ev.c b_eql) (w_as eb (nt (c_ff eb (wp_region_lit (w_val (y_bin ei Ev.c b_eql) (w_as eb (nt (c_ff eb (wp_seq (sr (w_val (y_bin ei Ev.c b_eql) (w_as eb (nt (c_ff eb (sr (w_val (y_bin ei Ev.c b_eql) (w_as eb (nt (c_ff eb (wp_region_lit (w_val (y_bin ei Ev.c b_eql) (w_as eb (nt (c_ff eb (wp_seq (sr ?_)))))))))))))))))))))))))))))))))))))))
 refine w_val (y_bin ei Ev.c b_eql) (w_as eb (nt (c_ff eb (sr (w_val (y_bin ei Ev.c b_eql) (w_as eb (nt (c_ff eb (sr (w_val (y_bin ei Ev.c b_eql) (w_as eb (nt (c_ff eb (sr (w_val (y_bin ei Ev.c b_eql) (w_as eb (nt (c_ff eb (sr (w_val (y_bin ei Ev.c b_eql) (w_as eb (nt (c_ff eb (sr (w_val (y_bin ei Ev.c b_eql) (w_as eb (nt (c_ff eb (sr (w_val (y_bin ei Ev.c b_eql) (w_as eb (nt (c_ff eb (wp_region_lit (w_val (y_bin ei Ev.c b_eql) (w_as eb (nt (c_ff eb (sr ?_)))))))))))))))))))))))))))))))))))))))
 refine w_val (y_bin ei Ev.c b_eql) (w_as eb (nt (c_ff eb (wp_seq (sr (w_val (y_bin ei Ev.c b_eql) (w_as eb (nt (c_ff eb (sr (w_val (y_bin ei Ev.c b_eql) (w_as eb (nt (c_tt eb (wp_skip (then_n (c_tt eb (wp_region_lit (w_mv ei (w_val (y_bin ei Ev.c (b_sub om)) (w_val (y_bin Ev.c ei (b_mul om)) (w_mv ei (w_val (y_bin ei Ev.c (b_sub om)) (w_val (y_bin Ev.c ei (b_mul om)) (w_val (v := .agg (arr 3 (fun j => if j < 1 then .int .i64 48 else if j < 2 then .int .i64 0 else .int .i64 48))) (y_build (vs := #[(0, .int .i64 48), (2, .int .i64 48)]) (mp_cons ei (mp_cons ei mp0)) (fun w => by kernel_rfl)) (w_sta (k := 3) (G := fun j => if j < 1 then .int .i64 48 else if j < 2 then .int .i64 0 else .int .i64 48) (ex (pt b_s 0)) ea oc SuAT.sz23 r_b_s om ?_))))))))))))))))))))))))))
 clear r_b_s; intro w7 r_b_s hg8 _
 replace r_b_s := r_b_s.congr (g := fun j => if j < 1 then .int .i64 48 else if j < 2 then .int .i64 0 else .int .i64 48) (fun j hj => by rw [if_pos ⟨Nat.zero_le _, by omega⟩]; first | rfl | (simp only [Nat.sub_zero]))
 replace r_b_2 := r_b_2.stepG hg8 om
 replace hk := thenG hk hg8 om
 refine wpList_nil (inb_n (then_n (sr (w_val (v := .agg (arr 3 (fun j => if j < 1 then .int .i64 48 else if j < 2 then .int .i64 0 else .int .i64 48))) (y_lda (ex (pt b_s 0)) SuAT.ag23 SuAT.sz23 (fun j hj => by rw [Nat.zero_add]; exact (r_b_s.cell om))) (w_sta (k := 3) (G := fun j => if j < 1 then .int .i64 48 else if j < 2 then .int .i64 0 else .int .i64 48) (ex (pt b_2 0)) ea oc SuAT.sz23 r_b_2 om ?_)))))
 clear r_b_2; intro w9 r_b_2 hg10 _
 replace r_b_2 := r_b_2.congr (g := fun j => if j < 1 then .int .i64 48 else if j < 2 then .int .i64 0 else .int .i64 48) (fun j hj => by rw [if_pos ⟨Nat.zero_le _, by omega⟩]; first | rfl | (simp only [Nat.sub_zero]))
 replace r_b_s := r_b_s.stepG hg10 om
 replace hk := thenG hk hg10 om
 refine w_as Ev.c (nt (wp_ret (fin_ct (F := fun j => if j < 1 then .int .i64 48 else if j < 2 then .int .i64 0 else .int .i64 48) rfl (ex (pt b_2 0)) ei SuAT.ag23 SuAT.sz23 r_b_2 om ?_)))
 refine ⟨congrArg Ending.returned ?_, hk⟩
 show (.tuple #[.agg (arr 3 (fun j => if j < 1 then .int .i64 48 else if j < 2 then .int .i64 0 else .int .i64 48)), .int .i64 0] : Value) = .tuple #[.agg (arr 3 (fun j => if j < 1 then .int .i64 (((Su.ky 16) : Nat) : Int) else if j < 2 then .int .i64 (((Su.iv 16) : Nat) : Int) else .int .i64 (((Su.tg 16) : Nat) : Int))), .int .i64 0]
 kernel_rfl

theorem suOf_107  (w0 : World) : Calls Tryz.prog 4 #[.int .i64 107] w0 fun e w' => e = .returned (.tuple #[.agg (arr 3 (fun j => if j < 1 then .int .i64 (((Su.ky 17) : Nat) : Int) else if j < 2 then .int .i64 (((Su.iv 17) : Nat) : Int) else .int .i64 (((Su.tg 17) : Nat) : Int))), .int .i64 0]) ∧ Below w0.heap.size w0 w' := by
 refine enter (n := 76) Tryz.func4 rfl rfl rfl ?_
 have hk : Below w0.heap.size w0 w0 := Below.refl _ _
 refine sr (w_alloc (m := 3) (F := fun j => if j < 1 then .int .i64 0 else if j < 2 then .int .i64 0 else .int .i64 0) kr ?_)
 intro b_2 w1 hbe_b_2 r_b_2 hb2
 have ge_b_2 := gb_ hk.size hbe_b_2
 clear hbe_b_2
 replace hk := thenB hk hb2
 refine w_as Ev.c (nt (sr (w_val (v := .agg (arr 3 (fun j => if j < 1 then .int .i64 0 else if j < 2 then .int .i64 0 else .int .i64 0))) (y_build (vs := #[]) mp0 (fun w => by kernel_rfl)) (w_alloc (m := 3) (F := fun j => if j < 1 then .int .i64 0 else if j < 2 then .int .i64 0 else .int .i64 0) kr ?_))))
 intro b_s w3 hbe_b_s r_b_s hb4
 have ne_b_2_b_s := r_b_2.nb hbe_b_s
 have ge_b_s := gb_ hk.size hbe_b_s
 clear hbe_b_s
 replace r_b_2 := r_b_2.step hb4
 replace hk := thenB hk hb4
 refine w_sta (k := 3) (G := fun j => if j < 1 then .int .i64 0 else if j < 2 then .int .i64 0 else .int .i64 0) (ex (pt b_s 0)) ea oc SuAT.sz23 r_b_s om ?_
 clear r_b_s; intro w5 r_b_s hg6 _
 replace r_b_s := r_b_s.congr (g := fun j => if j < 1 then .int .i64 0 else if j < 2 then .int .i64 0 else .int .i64 0) (fun j hj => by rw [if_pos ⟨Nat.zero_le _, by omega⟩]; first | rfl | (simp only [Nat.sub_zero]))
 replace r_b_2 := r_b_2.stepG hg6 om
 replace hk := thenG hk hg6 om
 refine nt (wp_seq (sr (w_mv ei (nt (wp_block (wp_seq (sr (w_val (y_bin ei Ev.c b_eql) (w_as eb (nt (c_ff eb (sr (w_val (y_bin ei Ev.c b_eql) (w_as eb (nt (c_ff eb (wp_region_lit (w_val (y_bin ei Ev.c b_eql) (w_as eb (nt (c_ff eb (wp_seq (sr (w_val (y_bin ei Ev.c b_eql) (w_as eb (nt (c_ff eb (sr (w_val (y_bin ei Ev.c b_eql) (w_as eb (nt (c_ff eb (wp_region_lit (w_val (y_bin ei Ev.c b_eql) (w_as eb (nt (c_ff eb (wp_seq (sr ?_)))))))))))))))))))))))))))))))))))))))
 refine w_val (y_bin ei Ev.c b_eql) (w_as eb (nt (c_ff eb (sr (w_val (y_bin ei Ev.c b_eql) (w_as eb (nt (c_ff eb (sr (w_val (y_bin ei Ev.c b_eql) (w_as eb (nt (c_ff eb (sr (w_val (y_bin ei Ev.c b_eql) (w_as eb (nt (c_ff eb (sr (w_val (y_bin ei Ev.c b_eql) (w_as eb (nt (c_ff eb (sr (w_val (y_bin ei Ev.c b_eql) (w_as eb (nt (c_ff eb (sr (w_val (y_bin ei Ev.c b_eql) (w_as eb (nt (c_ff eb (wp_region_lit (w_val (y_bin ei Ev.c b_eql) (w_as eb (nt (c_ff eb (sr ?_)))))))))))))))))))))))))))))))))))))))
 refine w_val (y_bin ei Ev.c b_eql) (w_as eb (nt (c_ff eb (wp_seq (sr (w_val (y_bin ei Ev.c b_eql) (w_as eb (nt (c_ff eb (sr (w_val (y_bin ei Ev.c b_eql) (w_as eb (nt (c_ff eb (wp_region_lit (w_val (y_bin ei Ev.c b_eql) (w_as eb (nt (c_tt eb (wp_region_lit (w_mv ei (w_val (y_bin ei Ev.c (b_sub om)) (w_val (y_bin Ev.c ei (b_mul om)) (w_mv ei (w_val (y_bin ei Ev.c (b_sub om)) (w_val (y_bin Ev.c ei (b_mul om)) (w_val (v := .agg (arr 3 (fun j => if j < 1 then .int .i64 64 else if j < 2 then .int .i64 0 else .int .i64 64))) (y_build (vs := #[(0, .int .i64 64), (2, .int .i64 64)]) (mp_cons ei (mp_cons ei mp0)) (fun w => by kernel_rfl)) (w_sta (k := 3) (G := fun j => if j < 1 then .int .i64 64 else if j < 2 then .int .i64 0 else .int .i64 64) (ex (pt b_s 0)) ea oc SuAT.sz23 r_b_s om ?_))))))))))))))))))))))))))))
 clear r_b_s; intro w7 r_b_s hg8 _
 replace r_b_s := r_b_s.congr (g := fun j => if j < 1 then .int .i64 64 else if j < 2 then .int .i64 0 else .int .i64 64) (fun j hj => by rw [if_pos ⟨Nat.zero_le _, by omega⟩]; first | rfl | (simp only [Nat.sub_zero]))
 replace r_b_2 := r_b_2.stepG hg8 om
 replace hk := thenG hk hg8 om
 refine wpList_nil (inb_n (then_n (sr (w_val (v := .agg (arr 3 (fun j => if j < 1 then .int .i64 64 else if j < 2 then .int .i64 0 else .int .i64 64))) (y_lda (ex (pt b_s 0)) SuAT.ag23 SuAT.sz23 (fun j hj => by rw [Nat.zero_add]; exact (r_b_s.cell om))) (w_sta (k := 3) (G := fun j => if j < 1 then .int .i64 64 else if j < 2 then .int .i64 0 else .int .i64 64) (ex (pt b_2 0)) ea oc SuAT.sz23 r_b_2 om ?_)))))
 clear r_b_2; intro w9 r_b_2 hg10 _
 replace r_b_2 := r_b_2.congr (g := fun j => if j < 1 then .int .i64 64 else if j < 2 then .int .i64 0 else .int .i64 64) (fun j hj => by rw [if_pos ⟨Nat.zero_le _, by omega⟩]; first | rfl | (simp only [Nat.sub_zero]))
 replace r_b_s := r_b_s.stepG hg10 om
 replace hk := thenG hk hg10 om
 refine w_as Ev.c (nt (wp_ret (fin_ct (F := fun j => if j < 1 then .int .i64 64 else if j < 2 then .int .i64 0 else .int .i64 64) rfl (ex (pt b_2 0)) ei SuAT.ag23 SuAT.sz23 r_b_2 om ?_)))
 refine ⟨congrArg Ending.returned ?_, hk⟩
 show (.tuple #[.agg (arr 3 (fun j => if j < 1 then .int .i64 64 else if j < 2 then .int .i64 0 else .int .i64 64)), .int .i64 0] : Value) = .tuple #[.agg (arr 3 (fun j => if j < 1 then .int .i64 (((Su.ky 17) : Nat) : Int) else if j < 2 then .int .i64 (((Su.iv 17) : Nat) : Int) else .int .i64 (((Su.tg 17) : Nat) : Int))), .int .i64 0]
 kernel_rfl

theorem suOf_114  (w0 : World) : Calls Tryz.prog 4 #[.int .i64 114] w0 fun e w' => e = .returned (.tuple #[.agg (arr 3 (fun j => if j < 1 then .int .i64 (((Su.ky 18) : Nat) : Int) else if j < 2 then .int .i64 (((Su.iv 18) : Nat) : Int) else .int .i64 (((Su.tg 18) : Nat) : Int))), .int .i64 0]) ∧ Below w0.heap.size w0 w' := by
 refine enter (n := 76) Tryz.func4 rfl rfl rfl ?_
 have hk : Below w0.heap.size w0 w0 := Below.refl _ _
 refine sr (w_alloc (m := 3) (F := fun j => if j < 1 then .int .i64 0 else if j < 2 then .int .i64 0 else .int .i64 0) kr ?_)
 intro b_2 w1 hbe_b_2 r_b_2 hb2
 have ge_b_2 := gb_ hk.size hbe_b_2
 clear hbe_b_2
 replace hk := thenB hk hb2
 refine w_as Ev.c (nt (sr (w_val (v := .agg (arr 3 (fun j => if j < 1 then .int .i64 0 else if j < 2 then .int .i64 0 else .int .i64 0))) (y_build (vs := #[]) mp0 (fun w => by kernel_rfl)) (w_alloc (m := 3) (F := fun j => if j < 1 then .int .i64 0 else if j < 2 then .int .i64 0 else .int .i64 0) kr ?_))))
 intro b_s w3 hbe_b_s r_b_s hb4
 have ne_b_2_b_s := r_b_2.nb hbe_b_s
 have ge_b_s := gb_ hk.size hbe_b_s
 clear hbe_b_s
 replace r_b_2 := r_b_2.step hb4
 replace hk := thenB hk hb4
 refine w_sta (k := 3) (G := fun j => if j < 1 then .int .i64 0 else if j < 2 then .int .i64 0 else .int .i64 0) (ex (pt b_s 0)) ea oc SuAT.sz23 r_b_s om ?_
 clear r_b_s; intro w5 r_b_s hg6 _
 replace r_b_s := r_b_s.congr (g := fun j => if j < 1 then .int .i64 0 else if j < 2 then .int .i64 0 else .int .i64 0) (fun j hj => by rw [if_pos ⟨Nat.zero_le _, by omega⟩]; first | rfl | (simp only [Nat.sub_zero]))
 replace r_b_2 := r_b_2.stepG hg6 om
 replace hk := thenG hk hg6 om
 refine nt (wp_seq (sr (w_mv ei (nt (wp_block (wp_seq (sr (w_val (y_bin ei Ev.c b_eql) (w_as eb (nt (c_ff eb (sr (w_val (y_bin ei Ev.c b_eql) (w_as eb (nt (c_ff eb (wp_region_lit (w_val (y_bin ei Ev.c b_eql) (w_as eb (nt (c_ff eb (wp_seq (sr (w_val (y_bin ei Ev.c b_eql) (w_as eb (nt (c_ff eb (sr (w_val (y_bin ei Ev.c b_eql) (w_as eb (nt (c_ff eb (wp_region_lit (w_val (y_bin ei Ev.c b_eql) (w_as eb (nt (c_ff eb (wp_seq (sr ?_)))))))))))))))))))))))))))))))))))))))
 refine w_val (y_bin ei Ev.c b_eql) (w_as eb (nt (c_ff eb (sr (w_val (y_bin ei Ev.c b_eql) (w_as eb (nt (c_ff eb (sr (w_val (y_bin ei Ev.c b_eql) (w_as eb (nt (c_ff eb (sr (w_val (y_bin ei Ev.c b_eql) (w_as eb (nt (c_ff eb (sr (w_val (y_bin ei Ev.c b_eql) (w_as eb (nt (c_ff eb (sr (w_val (y_bin ei Ev.c b_eql) (w_as eb (nt (c_ff eb (sr (w_val (y_bin ei Ev.c b_eql) (w_as eb (nt (c_ff eb (wp_region_lit (w_val (y_bin ei Ev.c b_eql) (w_as eb (nt (c_ff eb (sr ?_)))))))))))))))))))))))))))))))))))))))
 refine w_val (y_bin ei Ev.c b_eql) (w_as eb (nt (c_ff eb (wp_seq (sr (w_val (y_bin ei Ev.c b_eql) (w_as eb (nt (c_ff eb (sr (w_val (y_bin ei Ev.c b_eql) (w_as eb (nt (c_ff eb (wp_region_lit (w_val (y_bin ei Ev.c b_eql) (w_as eb (nt (c_ff eb (wp_seq (sr (w_val (y_bin ei Ev.c b_eql) (w_as eb (nt (c_tt eb (wp_skip (then_n (c_tt eb (wp_region_lit (w_mv ei (w_val (y_bin ei Ev.c (b_rem om)) (w_val (y_bin Ev.c ei (b_shl (c := 0) om om om)) (w_val (v := .agg (arr 3 (fun j => if j < 1 then .int .i64 (16 * 2 ^ 0) else if j < 2 then .int .i64 0 else .int .i64 8))) (y_build (vs := #[(0, .int .i64 (16 * 2 ^ 0)), (2, .int .i64 8)]) (mp_cons ei (mp_cons Ev.c mp0)) (fun w => by kernel_rfl)) (w_sta (k := 3) (G := fun j => if j < 1 then .int .i64 (16 * 2 ^ 0) else if j < 2 then .int .i64 0 else .int .i64 8) (ex (pt b_s 0)) ea oc SuAT.sz23 r_b_s om ?_))))))))))))))))))))))))))))))))))
 clear r_b_s; intro w7 r_b_s hg8 _
 replace r_b_s := r_b_s.congr (g := fun j => if j < 1 then .int .i64 (16 * 2 ^ 0) else if j < 2 then .int .i64 0 else .int .i64 8) (fun j hj => by rw [if_pos ⟨Nat.zero_le _, by omega⟩]; first | rfl | (simp only [Nat.sub_zero]))
 replace r_b_2 := r_b_2.stepG hg8 om
 replace hk := thenG hk hg8 om
 refine wpList_nil (inb_n (then_n (sr (w_val (v := .agg (arr 3 (fun j => if j < 1 then .int .i64 (16 * 2 ^ 0) else if j < 2 then .int .i64 0 else .int .i64 8))) (y_lda (ex (pt b_s 0)) SuAT.ag23 SuAT.sz23 (fun j hj => by rw [Nat.zero_add]; exact (r_b_s.cell om))) (w_sta (k := 3) (G := fun j => if j < 1 then .int .i64 (16 * 2 ^ 0) else if j < 2 then .int .i64 0 else .int .i64 8) (ex (pt b_2 0)) ea oc SuAT.sz23 r_b_2 om ?_)))))
 clear r_b_2; intro w9 r_b_2 hg10 _
 replace r_b_2 := r_b_2.congr (g := fun j => if j < 1 then .int .i64 (16 * 2 ^ 0) else if j < 2 then .int .i64 0 else .int .i64 8) (fun j hj => by rw [if_pos ⟨Nat.zero_le _, by omega⟩]; first | rfl | (simp only [Nat.sub_zero]))
 replace r_b_s := r_b_s.stepG hg10 om
 replace hk := thenG hk hg10 om
 refine w_as Ev.c (nt (wp_ret (fin_ct (F := fun j => if j < 1 then .int .i64 (16 * 2 ^ 0) else if j < 2 then .int .i64 0 else .int .i64 8) rfl (ex (pt b_2 0)) ei SuAT.ag23 SuAT.sz23 r_b_2 om ?_)))
 refine ⟨congrArg Ending.returned ?_, hk⟩
 show (.tuple #[.agg (arr 3 (fun j => if j < 1 then .int .i64 (16 * 2 ^ 0) else if j < 2 then .int .i64 0 else .int .i64 8)), .int .i64 0] : Value) = .tuple #[.agg (arr 3 (fun j => if j < 1 then .int .i64 (((Su.ky 18) : Nat) : Int) else if j < 2 then .int .i64 (((Su.iv 18) : Nat) : Int) else .int .i64 (((Su.tg 18) : Nat) : Int))), .int .i64 0]
 kernel_rfl

theorem suOf_115  (w0 : World) : Calls Tryz.prog 4 #[.int .i64 115] w0 fun e w' => e = .returned (.tuple #[.agg (arr 3 (fun j => if j < 1 then .int .i64 (((Su.ky 19) : Nat) : Int) else if j < 2 then .int .i64 (((Su.iv 19) : Nat) : Int) else .int .i64 (((Su.tg 19) : Nat) : Int))), .int .i64 0]) ∧ Below w0.heap.size w0 w' := by
 refine enter (n := 76) Tryz.func4 rfl rfl rfl ?_
 have hk : Below w0.heap.size w0 w0 := Below.refl _ _
 refine sr (w_alloc (m := 3) (F := fun j => if j < 1 then .int .i64 0 else if j < 2 then .int .i64 0 else .int .i64 0) kr ?_)
 intro b_2 w1 hbe_b_2 r_b_2 hb2
 have ge_b_2 := gb_ hk.size hbe_b_2
 clear hbe_b_2
 replace hk := thenB hk hb2
 refine w_as Ev.c (nt (sr (w_val (v := .agg (arr 3 (fun j => if j < 1 then .int .i64 0 else if j < 2 then .int .i64 0 else .int .i64 0))) (y_build (vs := #[]) mp0 (fun w => by kernel_rfl)) (w_alloc (m := 3) (F := fun j => if j < 1 then .int .i64 0 else if j < 2 then .int .i64 0 else .int .i64 0) kr ?_))))
 intro b_s w3 hbe_b_s r_b_s hb4
 have ne_b_2_b_s := r_b_2.nb hbe_b_s
 have ge_b_s := gb_ hk.size hbe_b_s
 clear hbe_b_s
 replace r_b_2 := r_b_2.step hb4
 replace hk := thenB hk hb4
 refine w_sta (k := 3) (G := fun j => if j < 1 then .int .i64 0 else if j < 2 then .int .i64 0 else .int .i64 0) (ex (pt b_s 0)) ea oc SuAT.sz23 r_b_s om ?_
 clear r_b_s; intro w5 r_b_s hg6 _
 replace r_b_s := r_b_s.congr (g := fun j => if j < 1 then .int .i64 0 else if j < 2 then .int .i64 0 else .int .i64 0) (fun j hj => by rw [if_pos ⟨Nat.zero_le _, by omega⟩]; first | rfl | (simp only [Nat.sub_zero]))
 replace r_b_2 := r_b_2.stepG hg6 om
 replace hk := thenG hk hg6 om
 refine nt (wp_seq (sr (w_mv ei (nt (wp_block (wp_seq (sr (w_val (y_bin ei Ev.c b_eql) (w_as eb (nt (c_ff eb (sr (w_val (y_bin ei Ev.c b_eql) (w_as eb (nt (c_ff eb (wp_region_lit (w_val (y_bin ei Ev.c b_eql) (w_as eb (nt (c_ff eb (wp_seq (sr (w_val (y_bin ei Ev.c b_eql) (w_as eb (nt (c_ff eb (sr (w_val (y_bin ei Ev.c b_eql) (w_as eb (nt (c_ff eb (wp_region_lit (w_val (y_bin ei Ev.c b_eql) (w_as eb (nt (c_ff eb (wp_seq (sr ?_)))))))))))))))))))))))))))))))))))))))
 refine w_val (y_bin ei Ev.c b_eql) (w_as eb (nt (c_ff eb (sr (w_val (y_bin ei Ev.c b_eql) (w_as eb (nt (c_ff eb (sr (w_val (y_bin ei Ev.c b_eql) (w_as eb (nt (c_ff eb (sr (w_val (y_bin ei Ev.c b_eql) (w_as eb (nt (c_ff eb (sr (w_val (y_bin ei Ev.c b_eql) (w_as eb (nt (c_ff eb (sr (w_val (y_bin ei Ev.c b_eql) (w_as eb (nt (c_ff eb (sr (w_val (y_bin ei Ev.c b_eql) (w_as eb (nt (c_ff eb (wp_region_lit (w_val (y_bin ei Ev.c b_eql) (w_as eb (nt (c_ff eb (sr ?_)))))))))))))))))))))))))))))))))))))))
 refine w_val (y_bin ei Ev.c b_eql) (w_as eb (nt (c_ff eb (wp_seq (sr (w_val (y_bin ei Ev.c b_eql) (w_as eb (nt (c_ff eb (sr (w_val (y_bin ei Ev.c b_eql) (w_as eb (nt (c_ff eb (wp_region_lit (w_val (y_bin ei Ev.c b_eql) (w_as eb (nt (c_ff eb (wp_seq (sr (w_val (y_bin ei Ev.c b_eql) (w_as eb (nt (c_ff eb (wp_region_lit (w_val (y_bin ei Ev.c b_eql) (w_as eb (nt (c_tt eb (wp_region_lit (w_mv ei (w_val (y_bin ei Ev.c (b_rem om)) (w_val (y_bin Ev.c ei (b_shl (c := 1) om om om)) (w_val (v := .agg (arr 3 (fun j => if j < 1 then .int .i64 (16 * 2 ^ 1) else if j < 2 then .int .i64 0 else .int .i64 8))) (y_build (vs := #[(0, .int .i64 (16 * 2 ^ 1)), (2, .int .i64 8)]) (mp_cons ei (mp_cons Ev.c mp0)) (fun w => by kernel_rfl)) (w_sta (k := 3) (G := fun j => if j < 1 then .int .i64 (16 * 2 ^ 1) else if j < 2 then .int .i64 0 else .int .i64 8) (ex (pt b_s 0)) ea oc SuAT.sz23 r_b_s om ?_))))))))))))))))))))))))))))))))))))
 clear r_b_s; intro w7 r_b_s hg8 _
 replace r_b_s := r_b_s.congr (g := fun j => if j < 1 then .int .i64 (16 * 2 ^ 1) else if j < 2 then .int .i64 0 else .int .i64 8) (fun j hj => by rw [if_pos ⟨Nat.zero_le _, by omega⟩]; first | rfl | (simp only [Nat.sub_zero]))
 replace r_b_2 := r_b_2.stepG hg8 om
 replace hk := thenG hk hg8 om
 refine wpList_nil (inb_n (then_n (sr (w_val (v := .agg (arr 3 (fun j => if j < 1 then .int .i64 (16 * 2 ^ 1) else if j < 2 then .int .i64 0 else .int .i64 8))) (y_lda (ex (pt b_s 0)) SuAT.ag23 SuAT.sz23 (fun j hj => by rw [Nat.zero_add]; exact (r_b_s.cell om))) (w_sta (k := 3) (G := fun j => if j < 1 then .int .i64 (16 * 2 ^ 1) else if j < 2 then .int .i64 0 else .int .i64 8) (ex (pt b_2 0)) ea oc SuAT.sz23 r_b_2 om ?_)))))
 clear r_b_2; intro w9 r_b_2 hg10 _
 replace r_b_2 := r_b_2.congr (g := fun j => if j < 1 then .int .i64 (16 * 2 ^ 1) else if j < 2 then .int .i64 0 else .int .i64 8) (fun j hj => by rw [if_pos ⟨Nat.zero_le _, by omega⟩]; first | rfl | (simp only [Nat.sub_zero]))
 replace r_b_s := r_b_s.stepG hg10 om
 replace hk := thenG hk hg10 om
 refine w_as Ev.c (nt (wp_ret (fin_ct (F := fun j => if j < 1 then .int .i64 (16 * 2 ^ 1) else if j < 2 then .int .i64 0 else .int .i64 8) rfl (ex (pt b_2 0)) ei SuAT.ag23 SuAT.sz23 r_b_2 om ?_)))
 refine ⟨congrArg Ending.returned ?_, hk⟩
 show (.tuple #[.agg (arr 3 (fun j => if j < 1 then .int .i64 (16 * 2 ^ 1) else if j < 2 then .int .i64 0 else .int .i64 8)), .int .i64 0] : Value) = .tuple #[.agg (arr 3 (fun j => if j < 1 then .int .i64 (((Su.ky 19) : Nat) : Int) else if j < 2 then .int .i64 (((Su.iv 19) : Nat) : Int) else .int .i64 (((Su.tg 19) : Nat) : Int))), .int .i64 0]
 kernel_rfl

theorem suOf_125  (w0 : World) : Calls Tryz.prog 4 #[.int .i64 125] w0 fun e w' => e = .returned (.tuple #[.agg (arr 3 (fun j => if j < 1 then .int .i64 (((Su.ky 20) : Nat) : Int) else if j < 2 then .int .i64 (((Su.iv 20) : Nat) : Int) else .int .i64 (((Su.tg 20) : Nat) : Int))), .int .i64 0]) ∧ Below w0.heap.size w0 w' := by
 refine enter (n := 76) Tryz.func4 rfl rfl rfl ?_
 have hk : Below w0.heap.size w0 w0 := Below.refl _ _
 refine sr (w_alloc (m := 3) (F := fun j => if j < 1 then .int .i64 0 else if j < 2 then .int .i64 0 else .int .i64 0) kr ?_)
 intro b_2 w1 hbe_b_2 r_b_2 hb2
 have ge_b_2 := gb_ hk.size hbe_b_2
 clear hbe_b_2
 replace hk := thenB hk hb2
 refine w_as Ev.c (nt (sr (w_val (v := .agg (arr 3 (fun j => if j < 1 then .int .i64 0 else if j < 2 then .int .i64 0 else .int .i64 0))) (y_build (vs := #[]) mp0 (fun w => by kernel_rfl)) (w_alloc (m := 3) (F := fun j => if j < 1 then .int .i64 0 else if j < 2 then .int .i64 0 else .int .i64 0) kr ?_))))
 intro b_s w3 hbe_b_s r_b_s hb4
 have ne_b_2_b_s := r_b_2.nb hbe_b_s
 have ge_b_s := gb_ hk.size hbe_b_s
 clear hbe_b_s
 replace r_b_2 := r_b_2.step hb4
 replace hk := thenB hk hb4
 refine w_sta (k := 3) (G := fun j => if j < 1 then .int .i64 0 else if j < 2 then .int .i64 0 else .int .i64 0) (ex (pt b_s 0)) ea oc SuAT.sz23 r_b_s om ?_
 clear r_b_s; intro w5 r_b_s hg6 _
 replace r_b_s := r_b_s.congr (g := fun j => if j < 1 then .int .i64 0 else if j < 2 then .int .i64 0 else .int .i64 0) (fun j hj => by rw [if_pos ⟨Nat.zero_le _, by omega⟩]; first | rfl | (simp only [Nat.sub_zero]))
 replace r_b_2 := r_b_2.stepG hg6 om
 replace hk := thenG hk hg6 om
 refine nt (wp_seq (sr (w_mv ei (nt (wp_block (wp_seq (sr (w_val (y_bin ei Ev.c b_eql) (w_as eb (nt (c_ff eb (sr (w_val (y_bin ei Ev.c b_eql) (w_as eb (nt (c_ff eb (wp_region_lit (w_val (y_bin ei Ev.c b_eql) (w_as eb (nt (c_ff eb (wp_seq (sr (w_val (y_bin ei Ev.c b_eql) (w_as eb (nt (c_ff eb (sr (w_val (y_bin ei Ev.c b_eql) (w_as eb (nt (c_ff eb (wp_region_lit (w_val (y_bin ei Ev.c b_eql) (w_as eb (nt (c_ff eb (wp_seq (sr ?_)))))))))))))))))))))))))))))))))))))))
 refine w_val (y_bin ei Ev.c b_eql) (w_as eb (nt (c_ff eb (sr (w_val (y_bin ei Ev.c b_eql) (w_as eb (nt (c_ff eb (sr (w_val (y_bin ei Ev.c b_eql) (w_as eb (nt (c_ff eb (sr (w_val (y_bin ei Ev.c b_eql) (w_as eb (nt (c_ff eb (sr (w_val (y_bin ei Ev.c b_eql) (w_as eb (nt (c_ff eb (sr (w_val (y_bin ei Ev.c b_eql) (w_as eb (nt (c_ff eb (sr (w_val (y_bin ei Ev.c b_eql) (w_as eb (nt (c_ff eb (wp_region_lit (w_val (y_bin ei Ev.c b_eql) (w_as eb (nt (c_ff eb (sr ?_)))))))))))))))))))))))))))))))))))))))
 refine w_val (y_bin ei Ev.c b_eql) (w_as eb (nt (c_ff eb (wp_seq (sr (w_val (y_bin ei Ev.c b_eql) (w_as eb (nt (c_ff eb (sr (w_val (y_bin ei Ev.c b_eql) (w_as eb (nt (c_ff eb (wp_region_lit (w_val (y_bin ei Ev.c b_eql) (w_as eb (nt (c_ff eb (wp_seq (sr (w_val (y_bin ei Ev.c b_eql) (w_as eb (nt (c_ff eb (wp_region_lit (w_val (y_bin ei Ev.c b_eql) (w_as eb (nt (c_ff eb (wp_seq (sr (w_val (y_bin ei Ev.c b_eql) (w_as eb (nt (c_tt eb (wp_skip (then_n (c_tt eb ?_)))))))))))))))))))))))))))))))))))))))
 refine wp_region_lit (w_mv ei (w_val (y_bin ei Ev.c (b_rem om)) (w_val (y_bin Ev.c ei (b_shr (c := 1) om om)) (w_val (v := .agg (arr 3 (fun j => if j < 1 then .int .i64 (32 / 2 ^ 1) else if j < 2 then .int .i64 0 else .int .i64 16))) (y_build (vs := #[(0, .int .i64 (32 / 2 ^ 1)), (2, .int .i64 16)]) (mp_cons ei (mp_cons Ev.c mp0)) (fun w => by kernel_rfl)) (w_sta (k := 3) (G := fun j => if j < 1 then .int .i64 (32 / 2 ^ 1) else if j < 2 then .int .i64 0 else .int .i64 16) (ex (pt b_s 0)) ea oc SuAT.sz23 r_b_s om ?_)))))
 clear r_b_s; intro w7 r_b_s hg8 _
 replace r_b_s := r_b_s.congr (g := fun j => if j < 1 then .int .i64 (32 / 2 ^ 1) else if j < 2 then .int .i64 0 else .int .i64 16) (fun j hj => by rw [if_pos ⟨Nat.zero_le _, by omega⟩]; first | rfl | (simp only [Nat.sub_zero]))
 replace r_b_2 := r_b_2.stepG hg8 om
 replace hk := thenG hk hg8 om
 refine wpList_nil (inb_n (then_n (sr (w_val (v := .agg (arr 3 (fun j => if j < 1 then .int .i64 (32 / 2 ^ 1) else if j < 2 then .int .i64 0 else .int .i64 16))) (y_lda (ex (pt b_s 0)) SuAT.ag23 SuAT.sz23 (fun j hj => by rw [Nat.zero_add]; exact (r_b_s.cell om))) (w_sta (k := 3) (G := fun j => if j < 1 then .int .i64 (32 / 2 ^ 1) else if j < 2 then .int .i64 0 else .int .i64 16) (ex (pt b_2 0)) ea oc SuAT.sz23 r_b_2 om ?_)))))
 clear r_b_2; intro w9 r_b_2 hg10 _
 replace r_b_2 := r_b_2.congr (g := fun j => if j < 1 then .int .i64 (32 / 2 ^ 1) else if j < 2 then .int .i64 0 else .int .i64 16) (fun j hj => by rw [if_pos ⟨Nat.zero_le _, by omega⟩]; first | rfl | (simp only [Nat.sub_zero]))
 replace r_b_s := r_b_s.stepG hg10 om
 replace hk := thenG hk hg10 om
 refine w_as Ev.c (nt (wp_ret (fin_ct (F := fun j => if j < 1 then .int .i64 (32 / 2 ^ 1) else if j < 2 then .int .i64 0 else .int .i64 16) rfl (ex (pt b_2 0)) ei SuAT.ag23 SuAT.sz23 r_b_2 om ?_)))
 refine ⟨congrArg Ending.returned ?_, hk⟩
 show (.tuple #[.agg (arr 3 (fun j => if j < 1 then .int .i64 (32 / 2 ^ 1) else if j < 2 then .int .i64 0 else .int .i64 16)), .int .i64 0] : Value) = .tuple #[.agg (arr 3 (fun j => if j < 1 then .int .i64 (((Su.ky 20) : Nat) : Int) else if j < 2 then .int .i64 (((Su.iv 20) : Nat) : Int) else .int .i64 (((Su.tg 20) : Nat) : Int))), .int .i64 0]
 kernel_rfl

theorem suOf_126  (w0 : World) : Calls Tryz.prog 4 #[.int .i64 126] w0 fun e w' => e = .returned (.tuple #[.agg (arr 3 (fun j => if j < 1 then .int .i64 (((Su.ky 21) : Nat) : Int) else if j < 2 then .int .i64 (((Su.iv 21) : Nat) : Int) else .int .i64 (((Su.tg 21) : Nat) : Int))), .int .i64 0]) ∧ Below w0.heap.size w0 w' := by
 refine enter (n := 76) Tryz.func4 rfl rfl rfl ?_
 have hk : Below w0.heap.size w0 w0 := Below.refl _ _
 refine sr (w_alloc (m := 3) (F := fun j => if j < 1 then .int .i64 0 else if j < 2 then .int .i64 0 else .int .i64 0) kr ?_)
 intro b_2 w1 hbe_b_2 r_b_2 hb2
 have ge_b_2 := gb_ hk.size hbe_b_2
 clear hbe_b_2
 replace hk := thenB hk hb2
 refine w_as Ev.c (nt (sr (w_val (v := .agg (arr 3 (fun j => if j < 1 then .int .i64 0 else if j < 2 then .int .i64 0 else .int .i64 0))) (y_build (vs := #[]) mp0 (fun w => by kernel_rfl)) (w_alloc (m := 3) (F := fun j => if j < 1 then .int .i64 0 else if j < 2 then .int .i64 0 else .int .i64 0) kr ?_))))
 intro b_s w3 hbe_b_s r_b_s hb4
 have ne_b_2_b_s := r_b_2.nb hbe_b_s
 have ge_b_s := gb_ hk.size hbe_b_s
 clear hbe_b_s
 replace r_b_2 := r_b_2.step hb4
 replace hk := thenB hk hb4
 refine w_sta (k := 3) (G := fun j => if j < 1 then .int .i64 0 else if j < 2 then .int .i64 0 else .int .i64 0) (ex (pt b_s 0)) ea oc SuAT.sz23 r_b_s om ?_
 clear r_b_s; intro w5 r_b_s hg6 _
 replace r_b_s := r_b_s.congr (g := fun j => if j < 1 then .int .i64 0 else if j < 2 then .int .i64 0 else .int .i64 0) (fun j hj => by rw [if_pos ⟨Nat.zero_le _, by omega⟩]; first | rfl | (simp only [Nat.sub_zero]))
 replace r_b_2 := r_b_2.stepG hg6 om
 replace hk := thenG hk hg6 om
 refine nt (wp_seq (sr (w_mv ei (nt (wp_block (wp_seq (sr (w_val (y_bin ei Ev.c b_eql) (w_as eb (nt (c_ff eb (sr (w_val (y_bin ei Ev.c b_eql) (w_as eb (nt (c_ff eb (wp_region_lit (w_val (y_bin ei Ev.c b_eql) (w_as eb (nt (c_ff eb (wp_seq (sr (w_val (y_bin ei Ev.c b_eql) (w_as eb (nt (c_ff eb (sr (w_val (y_bin ei Ev.c b_eql) (w_as eb (nt (c_ff eb (wp_region_lit (w_val (y_bin ei Ev.c b_eql) (w_as eb (nt (c_ff eb (wp_seq (sr ?_)))))))))))))))))))))))))))))))))))))))
 refine w_val (y_bin ei Ev.c b_eql) (w_as eb (nt (c_ff eb (sr (w_val (y_bin ei Ev.c b_eql) (w_as eb (nt (c_ff eb (sr (w_val (y_bin ei Ev.c b_eql) (w_as eb (nt (c_ff eb (sr (w_val (y_bin ei Ev.c b_eql) (w_as eb (nt (c_ff eb (sr (w_val (y_bin ei Ev.c b_eql) (w_as eb (nt (c_ff eb (sr (w_val (y_bin ei Ev.c b_eql) (w_as eb (nt (c_ff eb (sr (w_val (y_bin ei Ev.c b_eql) (w_as eb (nt (c_ff eb (wp_region_lit (w_val (y_bin ei Ev.c b_eql) (w_as eb (nt (c_ff eb (sr ?_)))))))))))))))))))))))))))))))))))))))
 refine w_val (y_bin ei Ev.c b_eql) (w_as eb (nt (c_ff eb (wp_seq (sr (w_val (y_bin ei Ev.c b_eql) (w_as eb (nt (c_ff eb (sr (w_val (y_bin ei Ev.c b_eql) (w_as eb (nt (c_ff eb (wp_region_lit (w_val (y_bin ei Ev.c b_eql) (w_as eb (nt (c_ff eb (wp_seq (sr (w_val (y_bin ei Ev.c b_eql) (w_as eb (nt (c_ff eb (wp_region_lit (w_val (y_bin ei Ev.c b_eql) (w_as eb (nt (c_ff eb (wp_seq (sr (w_val (y_bin ei Ev.c b_eql) (w_as eb (nt (c_ff eb (wp_region_lit (w_val (y_bin ei Ev.c b_eql) (w_as eb ?_)))))))))))))))))))))))))))))))))))))))
 refine nt (c_tt eb (wp_region_lit (w_mv ei (w_val (y_bin ei Ev.c (b_rem om)) (w_val (y_bin Ev.c ei (b_shr (c := 0) om om)) (w_val (v := .agg (arr 3 (fun j => if j < 1 then .int .i64 (32 / 2 ^ 0) else if j < 2 then .int .i64 0 else .int .i64 16))) (y_build (vs := #[(0, .int .i64 (32 / 2 ^ 0)), (2, .int .i64 16)]) (mp_cons ei (mp_cons Ev.c mp0)) (fun w => by kernel_rfl)) (w_sta (k := 3) (G := fun j => if j < 1 then .int .i64 (32 / 2 ^ 0) else if j < 2 then .int .i64 0 else .int .i64 16) (ex (pt b_s 0)) ea oc SuAT.sz23 r_b_s om ?_)))))))
 clear r_b_s; intro w7 r_b_s hg8 _
 replace r_b_s := r_b_s.congr (g := fun j => if j < 1 then .int .i64 (32 / 2 ^ 0) else if j < 2 then .int .i64 0 else .int .i64 16) (fun j hj => by rw [if_pos ⟨Nat.zero_le _, by omega⟩]; first | rfl | (simp only [Nat.sub_zero]))
 replace r_b_2 := r_b_2.stepG hg8 om
 replace hk := thenG hk hg8 om
 refine wpList_nil (inb_n (then_n (sr (w_val (v := .agg (arr 3 (fun j => if j < 1 then .int .i64 (32 / 2 ^ 0) else if j < 2 then .int .i64 0 else .int .i64 16))) (y_lda (ex (pt b_s 0)) SuAT.ag23 SuAT.sz23 (fun j hj => by rw [Nat.zero_add]; exact (r_b_s.cell om))) (w_sta (k := 3) (G := fun j => if j < 1 then .int .i64 (32 / 2 ^ 0) else if j < 2 then .int .i64 0 else .int .i64 16) (ex (pt b_2 0)) ea oc SuAT.sz23 r_b_2 om ?_)))))
 clear r_b_2; intro w9 r_b_2 hg10 _
 replace r_b_2 := r_b_2.congr (g := fun j => if j < 1 then .int .i64 (32 / 2 ^ 0) else if j < 2 then .int .i64 0 else .int .i64 16) (fun j hj => by rw [if_pos ⟨Nat.zero_le _, by omega⟩]; first | rfl | (simp only [Nat.sub_zero]))
 replace r_b_s := r_b_s.stepG hg10 om
 replace hk := thenG hk hg10 om
 refine w_as Ev.c (nt (wp_ret (fin_ct (F := fun j => if j < 1 then .int .i64 (32 / 2 ^ 0) else if j < 2 then .int .i64 0 else .int .i64 16) rfl (ex (pt b_2 0)) ei SuAT.ag23 SuAT.sz23 r_b_2 om ?_)))
 refine ⟨congrArg Ending.returned ?_, hk⟩
 show (.tuple #[.agg (arr 3 (fun j => if j < 1 then .int .i64 (32 / 2 ^ 0) else if j < 2 then .int .i64 0 else .int .i64 16)), .int .i64 0] : Value) = .tuple #[.agg (arr 3 (fun j => if j < 1 then .int .i64 (((Su.ky 21) : Nat) : Int) else if j < 2 then .int .i64 (((Su.iv 21) : Nat) : Int) else .int .i64 (((Su.tg 21) : Nat) : Int))), .int .i64 0]
 kernel_rfl

theorem suOf_n (alg : Int) (hn : ∀ i : Nat, i < 22 → ((Su.al i : Nat) : Int) ≠ alg) (w0 : World) : Calls Tryz.prog 4 #[.int .i64 alg] w0 fun e w' => e = .returned (.tuple #[.agg (arr 3 (fun j => if j < 1 then .int .i64 0 else if j < 2 then .int .i64 0 else .int .i64 0)), .int .i64 11]) ∧ Below w0.heap.size w0 w' := by
 refine enter (n := 76) Tryz.func4 rfl rfl rfl ?_
 have hk : Below w0.heap.size w0 w0 := Below.refl _ _
 refine sr (w_alloc (m := 3) (F := fun j => if j < 1 then .int .i64 0 else if j < 2 then .int .i64 0 else .int .i64 0) kr ?_)
 intro b_2 w1 hbe_b_2 r_b_2 hb2
 have ge_b_2 := gb_ hk.size hbe_b_2
 clear hbe_b_2
 replace hk := thenB hk hb2
 refine w_as Ev.c (nt (sr (w_val (v := .agg (arr 3 (fun j => if j < 1 then .int .i64 0 else if j < 2 then .int .i64 0 else .int .i64 0))) (y_build (vs := #[]) mp0 (fun w => by kernel_rfl)) (w_alloc (m := 3) (F := fun j => if j < 1 then .int .i64 0 else if j < 2 then .int .i64 0 else .int .i64 0) kr ?_))))
 intro b_s w3 hbe_b_s r_b_s hb4
 have ne_b_2_b_s := r_b_2.nb hbe_b_s
 have ge_b_s := gb_ hk.size hbe_b_s
 clear hbe_b_s
 replace r_b_2 := r_b_2.step hb4
 replace hk := thenB hk hb4
 refine w_sta (k := 3) (G := fun j => if j < 1 then .int .i64 0 else if j < 2 then .int .i64 0 else .int .i64 0) (ex (pt b_s 0)) ea oc SuAT.sz23 r_b_s om ?_
 clear r_b_s; intro w5 r_b_s hg6 _
 replace r_b_s := r_b_s.congr (g := fun j => if j < 1 then .int .i64 0 else if j < 2 then .int .i64 0 else .int .i64 0) (fun j hj => by rw [if_pos ⟨Nat.zero_le _, by omega⟩]; first | rfl | (simp only [Nat.sub_zero]))
 replace r_b_2 := r_b_2.stepG hg6 om
 replace hk := thenG hk hg6 om
 refine nt (wp_seq (sr (w_mv ei (nt (wp_block (wp_seq (sr (w_val (y_bin ei Ev.c b_eql) (w_as eb (nt ?_))))))))))
 have hc7 : ¬ (alg = 1) := by exact fun e => hn 0 (by decide) e.symm
 refine c_f (p := alg = 1) eb hc7 (sr (w_val (y_bin ei Ev.c b_eql) (w_as eb (nt ?_))))
 have hc8 : ¬ (alg = 2) := by exact fun e => hn 1 (by decide) e.symm
 refine c_f (p := alg = 2) eb hc8 (wp_region_lit (w_val (y_bin ei Ev.c b_eql) (w_as eb (nt ?_))))
 have hc9 : ¬ (alg = 3) := by exact fun e => hn 2 (by decide) e.symm
 refine c_f (p := alg = 3) eb hc9 (wp_seq (sr (w_val (y_bin ei Ev.c b_eql) (w_as eb (nt ?_)))))
 have hc10 : ¬ (alg = 4) := by exact fun e => hn 3 (by decide) e.symm
 refine c_f (p := alg = 4) eb hc10 (sr (w_val (y_bin ei Ev.c b_eql) (w_as eb (nt ?_))))
 have hc11 : ¬ (alg = 5) := by exact fun e => hn 4 (by decide) e.symm
 refine c_f (p := alg = 5) eb hc11 (wp_region_lit (w_val (y_bin ei Ev.c b_eql) (w_as eb (nt ?_))))
 have hc12 : ¬ (alg = 6) := by exact fun e => hn 5 (by decide) e.symm
 refine c_f (p := alg = 6) eb hc12 (wp_seq (sr (w_val (y_bin ei Ev.c b_eql) (w_as eb (nt ?_)))))
 have hc13 : ¬ (alg = 10) := by exact fun e => hn 6 (by decide) e.symm
 refine c_f (p := alg = 10) eb hc13 (sr (w_val (y_bin ei Ev.c b_eql) (w_as eb (nt ?_))))
 have hc14 : ¬ (alg = 11) := by exact fun e => hn 7 (by decide) e.symm
 refine c_f (p := alg = 11) eb hc14 (sr (w_val (y_bin ei Ev.c b_eql) (w_as eb (nt ?_))))
 have hc15 : ¬ (alg = 12) := by exact fun e => hn 8 (by decide) e.symm
 refine c_f (p := alg = 12) eb hc15 (sr (w_val (y_bin ei Ev.c b_eql) (w_as eb (nt ?_))))
 have hc16 : ¬ (alg = 13) := by exact fun e => hn 9 (by decide) e.symm
 refine c_f (p := alg = 13) eb hc16 (sr (w_val (y_bin ei Ev.c b_eql) (w_as eb (nt ?_))))
 have hc17 : ¬ (alg = 30) := by exact fun e => hn 10 (by decide) e.symm
 refine c_f (p := alg = 30) eb hc17 (sr (w_val (y_bin ei Ev.c b_eql) (w_as eb (nt ?_))))
 have hc18 : ¬ (alg = 31) := by exact fun e => hn 11 (by decide) e.symm
 refine c_f (p := alg = 31) eb hc18 (sr (w_val (y_bin ei Ev.c b_eql) (w_as eb (nt ?_))))
 have hc19 : ¬ (alg = 32) := by exact fun e => hn 12 (by decide) e.symm
 refine c_f (p := alg = 32) eb hc19 (wp_region_lit (w_val (y_bin ei Ev.c b_eql) (w_as eb (nt ?_))))
 have hc20 : ¬ (alg = 33) := by exact fun e => hn 13 (by decide) e.symm
 refine c_f (p := alg = 33) eb hc20 (sr (w_val (y_bin ei Ev.c b_eql) (w_as eb (nt ?_))))
 have hc21 : ¬ (alg = 104) := by exact fun e => hn 14 (by decide) e.symm
 refine c_f (p := alg = 104) eb hc21 (wp_seq (sr (w_val (y_bin ei Ev.c b_eql) (w_as eb (nt ?_)))))
 have hc22 : ¬ (alg = 105) := by exact fun e => hn 15 (by decide) e.symm
 refine c_f (p := alg = 105) eb hc22 (sr (w_val (y_bin ei Ev.c b_eql) (w_as eb (nt ?_))))
 have hc23 : ¬ (alg = 106) := by exact fun e => hn 16 (by decide) e.symm
 refine c_f (p := alg = 106) eb hc23 (wp_region_lit (w_val (y_bin ei Ev.c b_eql) (w_as eb (nt ?_))))
 have hc24 : ¬ (alg = 107) := by exact fun e => hn 17 (by decide) e.symm
 refine c_f (p := alg = 107) eb hc24 (wp_seq (sr (w_val (y_bin ei Ev.c b_eql) (w_as eb (nt ?_)))))
 have hc25 : ¬ (alg = 114) := by exact fun e => hn 18 (by decide) e.symm
 refine c_f (p := alg = 114) eb hc25 (wp_region_lit (w_val (y_bin ei Ev.c b_eql) (w_as eb (nt ?_))))
 have hc26 : ¬ (alg = 115) := by exact fun e => hn 19 (by decide) e.symm
 refine c_f (p := alg = 115) eb hc26 (wp_seq (sr (w_val (y_bin ei Ev.c b_eql) (w_as eb (nt ?_)))))
 have hc27 : ¬ (alg = 125) := by exact fun e => hn 20 (by decide) e.symm
 refine c_f (p := alg = 125) eb hc27 (wp_region_lit (w_val (y_bin ei Ev.c b_eql) (w_as eb (nt ?_))))
 have hc28 : ¬ (alg = 126) := by exact fun e => hn 21 (by decide) e.symm
 refine c_f (p := alg = 126) eb hc28 (sr (w_val (v := .agg (arr 3 (fun j => if j < 1 then .int .i64 0 else if j < 2 then .int .i64 0 else .int .i64 0))) (y_lda (ex (pt b_s 0)) SuAT.ag23 SuAT.sz23 (fun j hj => by rw [Nat.zero_add]; exact (r_b_s.cell om))) (w_sta (k := 3) (G := fun j => if j < 1 then .int .i64 0 else if j < 2 then .int .i64 0 else .int .i64 0) (ex (pt b_2 0)) ea oc SuAT.sz23 r_b_2 om ?_)))
 clear r_b_2; intro w29 r_b_2 hg30 _
 replace r_b_2 := r_b_2.congr (g := fun j => if j < 1 then .int .i64 0 else if j < 2 then .int .i64 0 else .int .i64 0) (fun j hj => by rw [if_pos ⟨Nat.zero_le _, by omega⟩]; first | rfl | (simp only [Nat.sub_zero]))
 replace r_b_s := r_b_s.stepG hg30 om
 replace hk := thenG hk hg30 om
 refine w_as Ev.c (nt (wp_ret (inb_r (then_r (fin_ct (F := fun j => if j < 1 then .int .i64 0 else if j < 2 then .int .i64 0 else .int .i64 0) rfl (ex (pt b_2 0)) ei SuAT.ag23 SuAT.sz23 r_b_2 om ?_)))))
 exact ⟨rfl, hk⟩

theorem suOf_y (i : Nat) (hi : i < 22) (w : World) : Calls Tryz.prog 4 #[.int .i64 ((Su.al i : Nat) : Int)] w fun e w' => e = .returned (.tuple #[.agg (arr 3 (fun j => if j < 1 then .int .i64 (((Su.ky i) : Nat) : Int) else if j < 2 then .int .i64 (((Su.iv i) : Nat) : Int) else .int .i64 (((Su.tg i) : Nat) : Int))), .int .i64 0]) ∧ Below w.heap.size w w' := by
  rcases (show i = 0 ∨ i = 1 ∨ i = 2 ∨ i = 3 ∨ i = 4 ∨ i = 5 ∨ i = 6 ∨ i = 7 ∨ i = 8 ∨ i = 9 ∨ i = 10 ∨ i = 11 ∨ i = 12 ∨ i = 13 ∨ i = 14 ∨ i = 15 ∨ i = 16 ∨ i = 17 ∨ i = 18 ∨ i = 19 ∨ i = 20 ∨ i = 21 by omega) with rfl | rfl | rfl | rfl | rfl | rfl | rfl | rfl | rfl | rfl | rfl | rfl | rfl | rfl | rfl | rfl | rfl | rfl | rfl | rfl | rfl | rfl
  · exact (suOf_1 w).mono fun e w' h => ⟨h.1.trans kr, h.2⟩
  · exact suOf_2 w
  · exact suOf_3 w
  · exact suOf_4 w
  · exact suOf_5 w
  · exact suOf_6 w
  · exact suOf_10 w
  · exact suOf_11 w
  · exact suOf_12 w
  · exact suOf_13 w
  · exact suOf_30 w
  · exact suOf_31 w
  · exact suOf_32 w
  · exact suOf_33 w
  · exact suOf_104 w
  · exact suOf_105 w
  · exact suOf_106 w
  · exact suOf_107 w
  · exact suOf_114 w
  · exact suOf_115 w
  · exact suOf_125 w
  · exact suOf_126 w

theorem suTable  (w0 : World) : Calls Tryz.prog 7 #[] w0 fun e w' => ∃ b, e = .returned (.slice (some ⟨b, 0, none⟩) 22 22) ∧ w0.heap.size ≤ b ∧ Row w' b 28 110 (fun j => .int .i64 (((Su.cell (j / 5) (j % 5)) : Nat) : Int)) ∧ Below w0.heap.size w0 w' := by
 refine enter (n := 24) Tryz.func7 rfl rfl rfl ?_
 have hk : Below w0.heap.size w0 w0 := Below.refl _ _
 refine sr (w_as Ev.c (nt (sr (w_val (v := .agg (arr 5 (fun j => .int .i64 (((Su.cell 0 j) : Nat) : Int)))) (y_build (vs := #[(0, .int .i64 1), (1, .int .i64 16), (2, .int .i64 12), (3, .int .i64 16), (4, .int .i64 9)]) (mp_cons Ev.c (mp_cons Ev.c (mp_cons Ev.c (mp_cons Ev.c (mp_cons Ev.c mp0))))) (fun w => by kernel_rfl)) (w_val (v := .agg (arr 5 (fun j => .int .i64 (((Su.cell 1 j) : Nat) : Int)))) (y_build (vs := #[(0, .int .i64 2), (1, .int .i64 24), (2, .int .i64 12), (3, .int .i64 16), (4, .int .i64 9)]) (mp_cons Ev.c (mp_cons Ev.c (mp_cons Ev.c (mp_cons Ev.c (mp_cons Ev.c mp0))))) (fun w => by kernel_rfl)) (w_val (v := .agg (arr 5 (fun j => .int .i64 (((Su.cell 2 j) : Nat) : Int)))) (y_build (vs := #[(0, .int .i64 3), (1, .int .i64 32), (2, .int .i64 12), (3, .int .i64 16), (4, .int .i64 9)]) (mp_cons Ev.c (mp_cons Ev.c (mp_cons Ev.c (mp_cons Ev.c (mp_cons Ev.c mp0))))) (fun w => by kernel_rfl)) (w_val (v := .agg (arr 5 (fun j => .int .i64 (((Su.cell 3 j) : Nat) : Int)))) (y_build (vs := #[(0, .int .i64 4), (1, .int .i64 32), (2, .int .i64 16), (3, .int .i64 16), (4, .int .i64 11)]) (mp_cons Ev.c (mp_cons Ev.c (mp_cons Ev.c (mp_cons Ev.c (mp_cons Ev.c mp0))))) (fun w => by kernel_rfl)) (w_val (v := .agg (arr 5 (fun j => .int .i64 (((Su.cell 4 j) : Nat) : Int)))) (y_build (vs := #[(0, .int .i64 5), (1, .int .i64 48), (2, .int .i64 16), (3, .int .i64 24), (4, .int .i64 11)]) (mp_cons Ev.c (mp_cons Ev.c (mp_cons Ev.c (mp_cons Ev.c (mp_cons Ev.c mp0))))) (fun w => by kernel_rfl)) (w_val (v := .agg (arr 5 (fun j => .int .i64 (((Su.cell 5 j) : Nat) : Int)))) (y_build (vs := #[(0, .int .i64 6), (1, .int .i64 64), (2, .int .i64 16), (3, .int .i64 32), (4, .int .i64 11)]) (mp_cons Ev.c (mp_cons Ev.c (mp_cons Ev.c (mp_cons Ev.c (mp_cons Ev.c mp0))))) (fun w => by kernel_rfl)) (w_val (v := .agg (arr 5 (fun j => .int .i64 (((Su.cell 6 j) : Nat) : Int)))) (y_build (vs := #[(0, .int .i64 10), (1, .int .i64 16), (2, .int .i64 13), (3, .int .i64 8), (4, .int .i64 10)]) (mp_cons Ev.c (mp_cons Ev.c (mp_cons Ev.c (mp_cons Ev.c (mp_cons Ev.c mp0))))) (fun w => by kernel_rfl)) (w_val (v := .agg (arr 5 (fun j => .int .i64 (((Su.cell 7 j) : Nat) : Int)))) (y_build (vs := #[(0, .int .i64 11), (1, .int .i64 32), (2, .int .i64 13), (3, .int .i64 8), (4, .int .i64 10)]) (mp_cons Ev.c (mp_cons Ev.c (mp_cons Ev.c (mp_cons Ev.c (mp_cons Ev.c mp0))))) (fun w => by kernel_rfl)) (w_val (v := .agg (arr 5 (fun j => .int .i64 (((Su.cell 8 j) : Nat) : Int)))) (y_build (vs := #[(0, .int .i64 12), (1, .int .i64 16), (2, .int .i64 7), (3, .int .i64 8), (4, .int .i64 10)]) (mp_cons Ev.c (mp_cons Ev.c (mp_cons Ev.c (mp_cons Ev.c (mp_cons Ev.c mp0))))) (fun w => by kernel_rfl)) (w_val (v := .agg (arr 5 (fun j => .int .i64 (((Su.cell 9 j) : Nat) : Int)))) (y_build (vs := #[(0, .int .i64 13), (1, .int .i64 32), (2, .int .i64 7), (3, .int .i64 8), (4, .int .i64 10)]) (mp_cons Ev.c (mp_cons Ev.c (mp_cons Ev.c (mp_cons Ev.c (mp_cons Ev.c mp0))))) (fun w => by kernel_rfl)) (w_val (v := .agg (arr 5 (fun j => .int .i64 (((Su.cell 10 j) : Nat) : Int)))) (y_build (vs := #[(0, .int .i64 30), (1, .int .i64 16), (2, .int .i64 13), (3, .int .i64 16), (4, .int .i64 10)]) (mp_cons Ev.c (mp_cons Ev.c (mp_cons Ev.c (mp_cons Ev.c (mp_cons Ev.c mp0))))) (fun w => by kernel_rfl)) (w_val (v := .agg (arr 5 (fun j => .int .i64 (((Su.cell 11 j) : Nat) : Int)))) (y_build (vs := #[(0, .int .i64 31), (1, .int .i64 32), (2, .int .i64 13), (3, .int .i64 16), (4, .int .i64 10)]) (mp_cons Ev.c (mp_cons Ev.c (mp_cons Ev.c (mp_cons Ev.c (mp_cons Ev.c mp0))))) (fun w => by kernel_rfl)) (w_val (v := .agg (arr 5 (fun j => .int .i64 (((Su.cell 12 j) : Nat) : Int)))) (y_build (vs := #[(0, .int .i64 32), (1, .int .i64 16), (2, .int .i64 7), (3, .int .i64 16), (4, .int .i64 10)]) (mp_cons Ev.c (mp_cons Ev.c (mp_cons Ev.c (mp_cons Ev.c (mp_cons Ev.c mp0))))) (fun w => by kernel_rfl)) (w_val (v := .agg (arr 5 (fun j => .int .i64 (((Su.cell 13 j) : Nat) : Int)))) (y_build (vs := #[(0, .int .i64 33), (1, .int .i64 32), (2, .int .i64 7), (3, .int .i64 16), (4, .int .i64 10)]) (mp_cons Ev.c (mp_cons Ev.c (mp_cons Ev.c (mp_cons Ev.c (mp_cons Ev.c mp0))))) (fun w => by kernel_rfl)) (w_val (v := .agg (arr 5 (fun j => .int .i64 (((Su.cell 14 j) : Nat) : Int)))) (y_build (vs := #[(0, .int .i64 104), (1, .int .i64 32), (2, .int .i64 0), (3, .int .i64 8), (4, .int .i64 4)]) (mp_cons Ev.c (mp_cons Ev.c (mp_cons Ev.c (mp_cons Ev.c (mp_cons Ev.c mp0))))) (fun w => by kernel_rfl)) (w_val (v := .agg (arr 5 (fun j => .int .i64 (((Su.cell 15 j) : Nat) : Int)))) (y_build (vs := #[(0, .int .i64 105), (1, .int .i64 32), (2, .int .i64 0), (3, .int .i64 32), (4, .int .i64 4)]) (mp_cons Ev.c (mp_cons Ev.c (mp_cons Ev.c (mp_cons Ev.c (mp_cons Ev.c mp0))))) (fun w => by kernel_rfl)) (w_val (v := .agg (arr 5 (fun j => .int .i64 (((Su.cell 16 j) : Nat) : Int)))) (y_build (vs := #[(0, .int .i64 106), (1, .int .i64 48), (2, .int .i64 0), (3, .int .i64 48), (4, .int .i64 4)]) (mp_cons Ev.c (mp_cons Ev.c (mp_cons Ev.c (mp_cons Ev.c (mp_cons Ev.c mp0))))) (fun w => by kernel_rfl)) (w_val (v := .agg (arr 5 (fun j => .int .i64 (((Su.cell 17 j) : Nat) : Int)))) (y_build (vs := #[(0, .int .i64 107), (1, .int .i64 64), (2, .int .i64 0), (3, .int .i64 64), (4, .int .i64 4)]) (mp_cons Ev.c (mp_cons Ev.c (mp_cons Ev.c (mp_cons Ev.c (mp_cons Ev.c mp0))))) (fun w => by kernel_rfl)) (w_val (v := .agg (arr 5 (fun j => .int .i64 (((Su.cell 18 j) : Nat) : Int)))) (y_build (vs := #[(0, .int .i64 114), (1, .int .i64 16), (2, .int .i64 0), (3, .int .i64 8), (4, .int .i64 6)]) (mp_cons Ev.c (mp_cons Ev.c (mp_cons Ev.c (mp_cons Ev.c (mp_cons Ev.c mp0))))) (fun w => by kernel_rfl)) (w_val (v := .agg (arr 5 (fun j => .int .i64 (((Su.cell 19 j) : Nat) : Int)))) (y_build (vs := #[(0, .int .i64 115), (1, .int .i64 32), (2, .int .i64 0), (3, .int .i64 8), (4, .int .i64 6)]) (mp_cons Ev.c (mp_cons Ev.c (mp_cons Ev.c (mp_cons Ev.c (mp_cons Ev.c mp0))))) (fun w => by kernel_rfl)) (w_val (v := .agg (arr 5 (fun j => .int .i64 (((Su.cell 20 j) : Nat) : Int)))) (y_build (vs := #[(0, .int .i64 125), (1, .int .i64 16), (2, .int .i64 0), (3, .int .i64 16), (4, .int .i64 6)]) (mp_cons Ev.c (mp_cons Ev.c (mp_cons Ev.c (mp_cons Ev.c (mp_cons Ev.c mp0))))) (fun w => by kernel_rfl)) (w_val (v := .agg (arr 5 (fun j => .int .i64 (((Su.cell 21 j) : Nat) : Int)))) (y_build (vs := #[(0, .int .i64 126), (1, .int .i64 32), (2, .int .i64 0), (3, .int .i64 16), (4, .int .i64 6)]) (mp_cons Ev.c (mp_cons Ev.c (mp_cons Ev.c (mp_cons Ev.c (mp_cons Ev.c mp0))))) (fun w => by kernel_rfl)) (w_bsn (k := 22) (m := 110) (e := 28) (F := fun j => .int .i64 (((Su.cell (j / 5) (j % 5)) : Nat) : Int)) (vs := #[(0, .agg (arr 5 (fun j => .int .i64 (((Su.cell 0 j) : Nat) : Int)))), (1, .agg (arr 5 (fun j => .int .i64 (((Su.cell 1 j) : Nat) : Int)))), (2, .agg (arr 5 (fun j => .int .i64 (((Su.cell 2 j) : Nat) : Int)))), (3, .agg (arr 5 (fun j => .int .i64 (((Su.cell 3 j) : Nat) : Int)))), (4, .agg (arr 5 (fun j => .int .i64 (((Su.cell 4 j) : Nat) : Int)))), (5, .agg (arr 5 (fun j => .int .i64 (((Su.cell 5 j) : Nat) : Int)))), (6, .agg (arr 5 (fun j => .int .i64 (((Su.cell 6 j) : Nat) : Int)))), (7, .agg (arr 5 (fun j => .int .i64 (((Su.cell 7 j) : Nat) : Int)))), (8, .agg (arr 5 (fun j => .int .i64 (((Su.cell 8 j) : Nat) : Int)))), (9, .agg (arr 5 (fun j => .int .i64 (((Su.cell 9 j) : Nat) : Int)))), (10, .agg (arr 5 (fun j => .int .i64 (((Su.cell 10 j) : Nat) : Int)))), (11, .agg (arr 5 (fun j => .int .i64 (((Su.cell 11 j) : Nat) : Int)))), (12, .agg (arr 5 (fun j => .int .i64 (((Su.cell 12 j) : Nat) : Int)))), (13, .agg (arr 5 (fun j => .int .i64 (((Su.cell 13 j) : Nat) : Int)))), (14, .agg (arr 5 (fun j => .int .i64 (((Su.cell 14 j) : Nat) : Int)))), (15, .agg (arr 5 (fun j => .int .i64 (((Su.cell 15 j) : Nat) : Int)))), (16, .agg (arr 5 (fun j => .int .i64 (((Su.cell 16 j) : Nat) : Int)))), (17, .agg (arr 5 (fun j => .int .i64 (((Su.cell 17 j) : Nat) : Int)))), (18, .agg (arr 5 (fun j => .int .i64 (((Su.cell 18 j) : Nat) : Int)))), (19, .agg (arr 5 (fun j => .int .i64 (((Su.cell 19 j) : Nat) : Int)))), (20, .agg (arr 5 (fun j => .int .i64 (((Su.cell 20 j) : Nat) : Int)))), (21, .agg (arr 5 (fun j => .int .i64 (((Su.cell 21 j) : Nat) : Int))))]) (mp_cons ea (mp_cons ea (mp_cons ea (mp_cons ea (mp_cons ea (mp_cons ea (mp_cons ea (mp_cons ea (mp_cons ea (mp_cons ea (mp_cons ea (mp_cons ea (mp_cons ea (mp_cons ea (mp_cons ea (mp_cons ea (mp_cons ea (mp_cons ea (mp_cons ea (mp_cons ea (mp_cons ea (mp_cons ea mp0)))))))))))))))))))))) (fun w => by kernel_rfl) ?_))))))))))))))))))))))))))
 intro b_23 w1 hbe_b_23 r_b_23 hb2
 have ge_b_23 := gb_ hk.size hbe_b_23
 clear hbe_b_23
 replace hk := thenB hk hb2
 refine w_as el (nt (wp_ret (fin_ret1 rfl el ?_)))
 exact ⟨b_23, rfl, ge_b_23, r_b_23, hk⟩

theorem refOf_y (q : Nat) (hq : q < 22) (w0 : World) : Calls Tryz.prog 5 #[.int .i64 (((Su.al q) : Nat) : Int)] w0 fun e w' => e = .returned (.agg (arr 5 (fun j => if j < 1 then .int .i64 (((Su.al q) : Nat) : Int) else if j < 2 then .int .i64 (((Su.ky q) : Nat) : Int) else if j < 3 then .int .i64 (((Su.iv q) : Nat) : Int) else if j < 4 then .int .i64 (((Su.tg q) : Nat) : Int) else .int .i64 (((Su.ly q) : Nat) : Int)))) ∧ Below w0.heap.size w0 w' := by
 refine enter (n := 24) Tryz.func5 rfl rfl rfl ?_
 have hk : Below w0.heap.size w0 w0 := Below.refl _ _
 refine sr (w_alloc (m := 5) (F := fun j => if j < 1 then .int .i64 0 else if j < 2 then .int .i64 0 else if j < 3 then .int .i64 0 else if j < 4 then .int .i64 0 else .int .i64 0) kr ?_)
 intro b_2 w1 hbe_b_2 r_b_2 hb2
 have ge_b_2 := gb_ hk.size hbe_b_2
 clear hbe_b_2
 replace hk := thenB hk hb2
 refine nt (sr (w_call (Tryz.func7) kr rfl m0 (suTable w1) ?_))
 rintro _ w3 ⟨b, rfl, hge_b, r_b, hbb⟩
 refine ⟨_, rfl, ?_⟩
 have ne_b_2_b : b_2 ≠ b := by have := r_b_2.lt; omega
 have ge_b : w0.heap.size ≤ b := by have := hk.size; omega
 replace r_b_2 := r_b_2.step hbb
 replace hk := thenB hk hbb
 refine w_as el (nt (wp_seq (sr (w_as Ev.c (nt (wp_block ?_))))))
 refine c_loop (fun dN aN wl => ∃ (i : Nat), dN = (22 - i) ∧ ∃ f4, aN = fr 24 f4 ∧ (i ≤ q) ∧ f4 0 = .int .i64 (((Su.al q) : Nat) : Int) ∧ f4 2 = pt b_2 0 ∧ f4 3 = .slice (some ⟨b, 0, none⟩) 22 22 ∧ f4 4 = .int .i64 ((i : Nat) : Int) ∧ Row wl b_2 28 5 (fun j => if j < 1 then .int .i64 0 else if j < 2 then .int .i64 0 else if j < 3 then .int .i64 0 else if j < 4 then .int .i64 0 else .int .i64 0) ∧ Row wl b 28 110 (fun j => .int .i64 (((Su.cell (j / 5) (j % 5)) : Nat) : Int)) ∧ Below w0.heap.size w0 wl) (22 - 0) ?_ ?_
 · exact ⟨0, rfl, _, rfl, (by first | omega | (have hne_ : i ≠ q := fun e => absurd (show ((Su.cell i 0 : Nat) : Int) = ((Su.al q : Nat) : Int) from (by rw [e]; rfl)) (by assumption); omega)), rfl, rfl, rfl, ti, r_b_2, r_b, hk⟩
 ·skip
  clear r_b_2 r_b hk
  rintro _ _ w5 ⟨i, rfl, f4, rfl, i1_0, s1_0, s1_2, s1_3, s1_4, r_b_2, r_b, hk⟩
  refine wp_seq (sr (w_mv (ei s1_4) (w_mv (el s1_3) (w_val (v := .int .i64 22) (y_len_sl el Tryz.underlying32) (w_val (y_bin ei ei b_lss) (nt ?_))))))
  refine c_if (p := ((i : Nat) : Int) < 22) eb (fun hc6 => ?_) (fun hc6 => ?_)
  ·skip
   refine wp_skip (then_n (wp_seq (wp_block (sr (w_mv (el s1_3) (w_mv (ei s1_4) (w_val (v := pt b (i * 5)) (y_off (y_is (i := i) el ei Tryz.underlying32 SuAT.sz28 om om) ro) (w_val (v := pt b (i * 5)) (y_off (y_fa (ex (pt b (i * 5))) (SuAT.fa28_0 _ _)) ro) (w_val (v := .int .i64 (((Su.cell i 0) : Nat) : Int)) (y_ld (ex (pt b (i * 5))) SuAT.sc3 (r_b.val om (by (try dsimp only); rw [show (i * 5) / 5 = i from by omega, show (i * 5) % 5 = 0 from by omega]))) (w_mv (ei s1_0) (w_val (y_bin ei ei b_eql) (nt ?_))))))))))))
   refine c_if (p := (((Su.cell i 0) : Nat) : Int) = (((Su.al q) : Nat) : Int)) eb (fun hc7 => ?_) (fun hc7 => ?_)
   ·skip
    refine wp_seq ?_
    have hiq : i = q := Su.al_inj i q om hq (by have h1 : ((Su.cell i 0 : Nat) : Int) = ((Su.al q : Nat) : Int) := (by assumption); exact Int.ofNat.inj h1)
    refine wp_region_lit (w_mv (el s1_3) ?_)
    refine w_mv (ex (.int .i64 ((q : Nat) : Int)) (by refine Eq.trans (b := .int .i64 ((i : Nat) : Int)) ?_ ?_; exact s1_4; (exact congrArg (fun k : Nat => Value.int .i64 (k : Int)) hiq))) ?_
    refine w_val (v := pt b (q * 5)) (y_off (y_is (i := q) el ei Tryz.underlying32 SuAT.sz28 om om) ro) (w_val (v := .agg (arr 5 (fun j => .int .i64 (((Su.cell q j) : Nat) : Int)))) (y_lda (ex (pt b (q * 5))) SuAT.ag28 SuAT.sz28 (fun j hj => (r_b.val om (by first | with_reducible rfl | exact (by (try dsimp only); rw [show ((q * 5) + j) / 5 = q from by omega, show ((q * 5) + j) % 5 = j from by omega]))))) (w_sta (k := 5) (G := fun j => .int .i64 (((Su.cell q j) : Nat) : Int)) (ex (pt b_2 0) s1_2) ea oc SuAT.sz28 r_b_2 om ?_))
    clear r_b_2; intro w8 r_b_2 hg9 _
    replace r_b_2 := r_b_2.congr (g := fun j => .int .i64 (((Su.cell q j) : Nat) : Int)) (fun j hj => by rw [if_pos ⟨Nat.zero_le _, by omega⟩]; first | rfl | (simp only [Nat.sub_zero]))
    replace r_b := r_b.stepG hg9 om
    replace hk := thenG hk hg9 om
    refine nt (wp_ret (inb_r (then_r (then_r (inb_r (then_r (fin_arr (F := fun j => .int .i64 (((Su.cell q j) : Nat) : Int)) rfl (ex (pt b_2 0) s1_2) SuAT.ag28 SuAT.sz28 r_b_2 om ?_)))))))
    refine ⟨congrArg Ending.returned ?_, hk⟩
    show (.agg (arr 5 (fun j => .int .i64 (((Su.cell q j) : Nat) : Int))) : Value) = .agg (arr 5 (fun j => if j < 1 then .int .i64 (((Su.al q) : Nat) : Int) else if j < 2 then .int .i64 (((Su.ky q) : Nat) : Int) else if j < 3 then .int .i64 (((Su.iv q) : Nat) : Int) else if j < 4 then .int .i64 (((Su.tg q) : Nat) : Int) else .int .i64 (((Su.ly q) : Nat) : Int)))
    kernel_rfl
   ·skip
    refine wp_skip (inb_n (then_n (wp_region_lit (w_mv (ei s1_4) (w_val (y_bin ei Ev.c (b_add om)) (w_as ei (wpList_nil ?_)))))))
    exact then_n ⟨_, om, i + 1, rfl, _, rfl, (by first | omega | (have hne_ : i ≠ q := fun e => absurd (show ((Su.cell i 0 : Nat) : Int) = ((Su.al q : Nat) : Int) from (by rw [e]; rfl)) (by assumption); omega)), s1_0, s1_2, s1_3, ti, r_b_2, r_b, hk⟩
  ·skip
   refine wp_exit (then_x (then_x (inb_x (then_n (wp_seq ?_)))))
   exfalso; omega

theorem refOf_n (alg : Int) (hn : ∀ i : Nat, i < 22 → ((Su.al i : Nat) : Int) ≠ alg) (w0 : World) : Calls Tryz.prog 5 #[.int .i64 alg] w0 fun e w' => e = .returned (.agg (arr 5 (fun j => if j < 1 then .int .i64 0 else if j < 2 then .int .i64 0 else if j < 3 then .int .i64 0 else if j < 4 then .int .i64 0 else .int .i64 0))) ∧ Below w0.heap.size w0 w' := by
 refine enter (n := 24) Tryz.func5 rfl rfl rfl ?_
 have hk : Below w0.heap.size w0 w0 := Below.refl _ _
 refine sr (w_alloc (m := 5) (F := fun j => if j < 1 then .int .i64 0 else if j < 2 then .int .i64 0 else if j < 3 then .int .i64 0 else if j < 4 then .int .i64 0 else .int .i64 0) kr ?_)
 intro b_2 w1 hbe_b_2 r_b_2 hb2
 have ge_b_2 := gb_ hk.size hbe_b_2
 clear hbe_b_2
 replace hk := thenB hk hb2
 refine nt (sr (w_call (Tryz.func7) kr rfl m0 (suTable w1) ?_))
 rintro _ w3 ⟨b, rfl, hge_b, r_b, hbb⟩
 refine ⟨_, rfl, ?_⟩
 have ne_b_2_b : b_2 ≠ b := by have := r_b_2.lt; omega
 have ge_b : w0.heap.size ≤ b := by have := hk.size; omega
 replace r_b_2 := r_b_2.step hbb
 replace hk := thenB hk hbb
 refine w_as el (nt (wp_seq (sr (w_as Ev.c (nt (wp_block ?_))))))
 refine c_loop (fun dN aN wl => ∃ (i : Nat), dN = (22 - i) ∧ ∃ f4, aN = fr 24 f4 ∧ (i ≤ 22) ∧ f4 0 = .int .i64 alg ∧ f4 2 = pt b_2 0 ∧ f4 3 = .slice (some ⟨b, 0, none⟩) 22 22 ∧ f4 4 = .int .i64 ((i : Nat) : Int) ∧ Row wl b_2 28 5 (fun j => if j < 1 then .int .i64 0 else if j < 2 then .int .i64 0 else if j < 3 then .int .i64 0 else if j < 4 then .int .i64 0 else .int .i64 0) ∧ Row wl b 28 110 (fun j => .int .i64 (((Su.cell (j / 5) (j % 5)) : Nat) : Int)) ∧ Below w0.heap.size w0 wl) (22 - 0) ?_ ?_
 · exact ⟨0, rfl, _, rfl, om, rfl, rfl, rfl, ti, r_b_2, r_b, hk⟩
 ·skip
  clear r_b_2 r_b hk
  rintro _ _ w5 ⟨i, rfl, f4, rfl, i1_0, s1_0, s1_2, s1_3, s1_4, r_b_2, r_b, hk⟩
  refine wp_seq (sr (w_mv (ei s1_4) (w_mv (el s1_3) (w_val (v := .int .i64 22) (y_len_sl el Tryz.underlying32) (w_val (y_bin ei ei b_lss) (nt ?_))))))
  refine c_if (p := ((i : Nat) : Int) < 22) eb (fun hc6 => ?_) (fun hc6 => ?_)
  ·skip
   refine wp_skip (then_n (wp_seq (wp_block (sr (w_mv (el s1_3) (w_mv (ei s1_4) (w_val (v := pt b (i * 5)) (y_off (y_is (i := i) el ei Tryz.underlying32 SuAT.sz28 om om) ro) (w_val (v := pt b (i * 5)) (y_off (y_fa (ex (pt b (i * 5))) (SuAT.fa28_0 _ _)) ro) (w_val (v := .int .i64 (((Su.cell i 0) : Nat) : Int)) (y_ld (ex (pt b (i * 5))) SuAT.sc3 (r_b.val om (by (try dsimp only); rw [show (i * 5) / 5 = i from by omega, show (i * 5) % 5 = 0 from by omega]))) (w_mv (ei s1_0) (w_val (y_bin ei ei b_eql) (nt ?_))))))))))))
   refine c_if (p := (((Su.cell i 0) : Nat) : Int) = alg) eb (fun hc7 => ?_) (fun hc7 => ?_)
   ·skip
    refine wp_seq ?_
    exact absurd (show ((Su.al i : Nat) : Int) = alg by assumption) (hn i om)
   ·skip
    refine wp_skip (inb_n (then_n (wp_region_lit (w_mv (ei s1_4) (w_val (y_bin ei Ev.c (b_add om)) (w_as ei (wpList_nil ?_)))))))
    exact then_n ⟨_, om, i + 1, rfl, _, rfl, om, s1_0, s1_2, s1_3, ti, r_b_2, r_b, hk⟩
  ·skip
   refine wp_exit (then_x (then_x (inb_x (then_n (sr (w_val (v := .agg (arr 5 (fun j => if j < 1 then .int .i64 0 else if j < 2 then .int .i64 0 else if j < 3 then .int .i64 0 else if j < 4 then .int .i64 0 else .int .i64 0))) (y_build (vs := #[]) mp0 (fun w => by kernel_rfl)) (w_sta (k := 5) (G := fun j => if j < 1 then .int .i64 0 else if j < 2 then .int .i64 0 else if j < 3 then .int .i64 0 else if j < 4 then .int .i64 0 else .int .i64 0) (ex (pt b_2 0) s1_2) ea oc SuAT.sz28 r_b_2 om ?_)))))))
   clear r_b_2; intro w8 r_b_2 hg9 _
   replace r_b_2 := r_b_2.congr (g := fun j => if j < 1 then .int .i64 0 else if j < 2 then .int .i64 0 else if j < 3 then .int .i64 0 else if j < 4 then .int .i64 0 else .int .i64 0) (fun j hj => by rw [if_pos ⟨Nat.zero_le _, by omega⟩]; first | rfl | (simp only [Nat.sub_zero]))
   replace r_b := r_b.stepG hg9 om
   replace hk := thenG hk hg9 om
   refine nt (wp_ret (fin_arr (F := fun j => if j < 1 then .int .i64 0 else if j < 2 then .int .i64 0 else if j < 3 then .int .i64 0 else if j < 4 then .int .i64 0 else .int .i64 0) rfl (ex (pt b_2 0) s1_2) SuAT.ag28 SuAT.sz28 r_b_2 om ?_))
   exact ⟨rfl, hk⟩
end Go.Proofs.YtdmbfimjbmfbaaaGreat
