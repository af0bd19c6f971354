/-
  Rows of ciphers: the program's, the reference's. Conditions as each says.
-/
import Derived.Test.YtdmbfimjbmfbaaaGreatDoorRows
import Derived.Test.YtdmbfimjbmfbaaaGreatDoorSuPlain
import Derived.Test.YtdmbfimjbmfbaaaGreatDoorCbcM
import Derived.Test.YtdmbfimjbmfbaaaGreatDoorGenMore
import Derived.Test.YtdmbfimjbmfbaaaGreatDoorAesLeaf
import Derived.Test.YtdmbfimjbmfbaaaGreatDoorGenSh
import Derived.ProofKit
namespace Go.Proofs.YtdmbfimjbmfbaaaGreatDoor
open Go.RowKit
set_option linter.unusedSimpArgs false
set_option linter.unusedVariables false
set_option maxRecDepth 100000
set_option maxHeartbeats 1000000
namespace SuAT
theorem mixed : Tryz.prog.follows .mixedOrders = true := by kernel_rfl
theorem ag35 : (Tryz.prog.underlying 35).map isAggD = some true := by rw [Tryz.underlying35]; rfl
theorem ag43 : (Tryz.prog.underlying 43).map isAggD = some true := by rw [Tryz.underlying43]; rfl
theorem fa43_0 (g off : Nat) : ∀ w, (Instr.fieldAt 43 (.pointer (some ⟨g, off, none⟩)) 0).run Tryz.prog w = .ok (.pointer (some ⟨g, off + 0, none⟩)) w := fun w => by kernel_rfl
theorem sc3 : (Tryz.prog.underlying 3).map scal = some true := by rw [Tryz.underlying3]; rfl
theorem sz35 : (Tryz.prog.info? 35).map (·.size) = some 3 := by kernel_rfl
theorem sz43 : (Tryz.prog.info? 43).map (·.size) = some 5 := by kernel_rfl
end SuAT
set_option maxHeartbeats 8000000 in
theorem suOf_y (i : Nat) (hi : i < 22) (w : World) : Calls Tryz.prog 10 #[.int .i64 ((Su.al i : Nat) : Int)] w fun e w' => e = .returned (.tuple #[.agg (arr 3 (fun j => if j < 1 then .int .i64 (((Su.ky i) : Nat) : Int) else if j < 2 then .int .i64 (((Su.iv i) : Nat) : Int) else .int .i64 (((Su.tg i) : Nat) : Int))), .int .i64 0]) ∧ Below w.heap.size w w' := by
  rcases (show i = 0 ∨ i = 1 ∨ i = 2 ∨ i = 3 ∨ i = 4 ∨ i = 5 ∨ i = 6 ∨ i = 7 ∨ i = 8 ∨ i = 9 ∨ i = 10 ∨ i = 11 ∨ i = 12 ∨ i = 13 ∨ i = 14 ∨ i = 15 ∨ i = 16 ∨ i = 17 ∨ i = 18 ∨ i = 19 ∨ i = 20 ∨ i = 21 by omega) with rfl | rfl | rfl | rfl | rfl | rfl | rfl | rfl | rfl | rfl | rfl | rfl | rfl | rfl | rfl | rfl | rfl | rfl | rfl | rfl | rfl | rfl
  all_goals
    simp only [Su.als]
    go_enter Tryz.func10, Tryz.ntmps10
    go_wp2
    refine bodyPost_ret ?_ rfl ⟨rfl, ((Below.refl _ _).alloc (Nat.le_refl _) _).alloc (by simp) _⟩
    simp [results, go_sem, arr, List.range_succ, Su.ky, Su.iv, Su.tg]
theorem suOf_1 (w : World) : Calls Tryz.prog 10 #[.int .i64 1] w fun e w' => e = .returned (.tuple #[.agg (arr 3 (fun j => if j < 1 then .int .i64 16 else if j < 2 then .int .i64 12 else .int .i64 16)), .int .i64 0]) ∧ Below w.heap.size w w' := (suOf_y 0 (by decide) w).mono fun e w' h => ⟨h.1.trans (by kernel_rfl), h.2⟩

theorem suOf_n (alg : Int) (hn : ∀ i : Nat, i < 22 → ((Su.al i : Nat) : Int) ≠ alg) (w0 : World) : Calls Tryz.prog 10 #[.int .i64 alg] w0 fun e w' => e = .returned (.tuple #[.agg (arr 3 (fun j => if j < 1 then .int .i64 0 else if j < 2 then .int .i64 0 else .int .i64 0)), .int .i64 11]) ∧ Below w0.heap.size w0 w' := by
 refine enter (n := 76) Tryz.func10 rfl rfl rfl ?_
 have hk : Below w0.heap.size w0 w0 := Below.refl _ _
 refine sr (w_alloc (m := 3) (F := fun j => if j < 1 then .int .i64 0 else if j < 2 then .int .i64 0 else .int .i64 0) kr ?_)
 intro a4 w1 ad aa ba
 have aj := gb_ hk.size ad
 clear ad
 replace hk := thenB hk ba
 refine w_as Ev.c (nt (sr (w_val (v := .agg (arr 3 (fun j => if j < 1 then .int .i64 0 else if j < 2 then .int .i64 0 else .int .i64 0))) (y_build (vs := #[]) mp0 (fun w => by kernel_rfl)) (w_alloc (m := 3) (F := fun j => if j < 1 then .int .i64 0 else if j < 2 then .int .i64 0 else .int .i64 0) kr ?_))))
 intro a6 w3 ac ab a7
 have ae := aa.nb ac
 have a3 := gb_ hk.size ac
 clear ac
 replace aa := aa.step a7
 replace hk := thenB hk a7
 refine w_sta (k := 3) (G := fun j => if j < 1 then .int .i64 0 else if j < 2 then .int .i64 0 else .int .i64 0) (ex (pt a6 0)) ea oc SuAT.sz35 ab om ?_
 clear ab; intro w5 ab a5 _
 replace ab := ab.congr (g := fun j => if j < 1 then .int .i64 0 else if j < 2 then .int .i64 0 else .int .i64 0) (fun j hj => by rw [if_pos ⟨Nat.zero_le _, by omega⟩]; first | rfl | (simp only [Nat.sub_zero]))
 replace aa := aa.stepG a5 om
 replace hk := thenG hk a5 om
 refine nt (wp_seq (sr (w_mv ei (nt (wp_block (wp_seq (sr (w_val (y_bin ei Ev.c b_eql) (w_as eb (nt ?_))))))))))
 have a8 : ¬ (alg = 1) := by exact fun e => hn 0 (by decide) e.symm
 refine c_f (p := alg = 1) eb a8 (sr (w_val (y_bin ei Ev.c b_eql) (w_as eb (nt ?_))))
 have a9 : ¬ (alg = 2) := by exact fun e => hn 1 (by decide) e.symm
 refine c_f (p := alg = 2) eb a9 (wp_region_lit (w_val (y_bin ei Ev.c b_eql) (w_as eb (nt ?_))))
 have bb : ¬ (alg = 3) := by exact fun e => hn 2 (by decide) e.symm
 refine c_f (p := alg = 3) eb bb (wp_seq (sr (w_val (y_bin ei Ev.c b_eql) (w_as eb (nt ?_)))))
 have ax : ¬ (alg = 4) := by exact fun e => hn 3 (by decide) e.symm
 refine c_f (p := alg = 4) eb ax (sr (w_val (y_bin ei Ev.c b_eql) (w_as eb (nt ?_))))
 have ag : ¬ (alg = 5) := by exact fun e => hn 4 (by decide) e.symm
 refine c_f (p := alg = 5) eb ag (wp_region_lit (w_val (y_bin ei Ev.c b_eql) (w_as eb (nt ?_))))
 have a0 : ¬ (alg = 6) := by exact fun e => hn 5 (by decide) e.symm
 refine c_f (p := alg = 6) eb a0 (wp_seq (sr (w_val (y_bin ei Ev.c b_eql) (w_as eb (nt ?_)))))
 have ah : ¬ (alg = 10) := by exact fun e => hn 6 (by decide) e.symm
 refine c_f (p := alg = 10) eb ah (sr (w_val (y_bin ei Ev.c b_eql) (w_as eb (nt ?_))))
 have an : ¬ (alg = 11) := by exact fun e => hn 7 (by decide) e.symm
 refine c_f (p := alg = 11) eb an (sr (w_val (y_bin ei Ev.c b_eql) (w_as eb (nt ?_))))
 have av : ¬ (alg = 12) := by exact fun e => hn 8 (by decide) e.symm
 refine c_f (p := alg = 12) eb av (sr (w_val (y_bin ei Ev.c b_eql) (w_as eb (nt ?_))))
 have aq : ¬ (alg = 13) := by exact fun e => hn 9 (by decide) e.symm
 refine c_f (p := alg = 13) eb aq (sr (w_val (y_bin ei Ev.c b_eql) (w_as eb (nt ?_))))
 have ak : ¬ (alg = 30) := by exact fun e => hn 10 (by decide) e.symm
 refine c_f (p := alg = 30) eb ak (sr (w_val (y_bin ei Ev.c b_eql) (w_as eb (nt ?_))))
 have ay : ¬ (alg = 31) := by exact fun e => hn 11 (by decide) e.symm
 refine c_f (p := alg = 31) eb ay (sr (w_val (y_bin ei Ev.c b_eql) (w_as eb (nt ?_))))
 have a2 : ¬ (alg = 32) := by exact fun e => hn 12 (by decide) e.symm
 refine c_f (p := alg = 32) eb a2 (wp_region_lit (w_val (y_bin ei Ev.c b_eql) (w_as eb (nt ?_))))
 have aw : ¬ (alg = 33) := by exact fun e => hn 13 (by decide) e.symm
 refine c_f (p := alg = 33) eb aw (sr (w_val (y_bin ei Ev.c b_eql) (w_as eb (nt ?_))))
 have ar : ¬ (alg = 104) := by exact fun e => hn 14 (by decide) e.symm
 refine c_f (p := alg = 104) eb ar (wp_seq (sr (w_val (y_bin ei Ev.c b_eql) (w_as eb (nt ?_)))))
 have ap : ¬ (alg = 105) := by exact fun e => hn 15 (by decide) e.symm
 refine c_f (p := alg = 105) eb ap (sr (w_val (y_bin ei Ev.c b_eql) (w_as eb (nt ?_))))
 have au : ¬ (alg = 106) := by exact fun e => hn 16 (by decide) e.symm
 refine c_f (p := alg = 106) eb au (wp_region_lit (w_val (y_bin ei Ev.c b_eql) (w_as eb (nt ?_))))
 have a1 : ¬ (alg = 107) := by exact fun e => hn 17 (by decide) e.symm
 refine c_f (p := alg = 107) eb a1 (wp_seq (sr (w_val (y_bin ei Ev.c b_eql) (w_as eb (nt ?_)))))
 have am : ¬ (alg = 114) := by exact fun e => hn 18 (by decide) e.symm
 refine c_f (p := alg = 114) eb am (wp_region_lit (w_val (y_bin ei Ev.c b_eql) (w_as eb (nt ?_))))
 have az : ¬ (alg = 115) := by exact fun e => hn 19 (by decide) e.symm
 refine c_f (p := alg = 115) eb az (wp_seq (sr (w_val (y_bin ei Ev.c b_eql) (w_as eb (nt ?_)))))
 have ao : ¬ (alg = 125) := by exact fun e => hn 20 (by decide) e.symm
 refine c_f (p := alg = 125) eb ao (wp_region_lit (w_val (y_bin ei Ev.c b_eql) (w_as eb (nt ?_))))
 have ai : ¬ (alg = 126) := by exact fun e => hn 21 (by decide) e.symm
 refine c_f (p := alg = 126) eb ai (sr (w_val (v := .agg (arr 3 (fun j => if j < 1 then .int .i64 0 else if j < 2 then .int .i64 0 else .int .i64 0))) (y_lda (ex (pt a6 0)) SuAT.ag35 SuAT.sz35 (fun j hj => by rw [Nat.zero_add]; exact (ab.cell om))) (w_sta (k := 3) (G := fun j => if j < 1 then .int .i64 0 else if j < 2 then .int .i64 0 else .int .i64 0) (ex (pt a4 0)) ea oc SuAT.sz35 aa om ?_)))
 clear aa; intro bc aa af _
 replace aa := aa.congr (g := fun j => if j < 1 then .int .i64 0 else if j < 2 then .int .i64 0 else .int .i64 0) (fun j hj => by rw [if_pos ⟨Nat.zero_le _, by omega⟩]; first | rfl | (simp only [Nat.sub_zero]))
 replace ab := ab.stepG af om
 replace hk := thenG hk af om
 refine w_as Ev.c (nt (wp_ret (inb_r (then_r (fin_ct (F := fun j => if j < 1 then .int .i64 0 else if j < 2 then .int .i64 0 else .int .i64 0) rfl (ex (pt a4 0)) ei SuAT.ag35 SuAT.sz35 aa om ?_)))))
 exact ⟨rfl, hk⟩

theorem suTable  (w0 : World) : Calls Tryz.prog 21 #[] w0 fun e w' => ∃ b, e = .returned (.slice (some ⟨b, 0, none⟩) 22 22) ∧ w0.heap.size ≤ b ∧ Row w' b 43 110 (fun j => .int .i64 (((Su.cell (j / 5) (j % 5)) : Nat) : Int)) ∧ Below w0.heap.size w0 w' := by
 refine enter (n := 24) Tryz.func21 rfl rfl rfl ?_
 have hk : Below w0.heap.size w0 w0 := Below.refl _ _
 refine sr (w_as Ev.c (nt (sr (w_val (v := .agg (arr 5 (fun j => .int .i64 (((Su.cell 0 j) : Nat) : Int)))) (y_build (vs := #[(0, .int .i64 1), (1, .int .i64 16), (2, .int .i64 12), (3, .int .i64 16), (4, .int .i64 9)]) (mp_cons Ev.c (mp_cons Ev.c (mp_cons Ev.c (mp_cons Ev.c (mp_cons Ev.c mp0))))) (fun w => by kernel_rfl)) (w_val (v := .agg (arr 5 (fun j => .int .i64 (((Su.cell 1 j) : Nat) : Int)))) (y_build (vs := #[(0, .int .i64 2), (1, .int .i64 24), (2, .int .i64 12), (3, .int .i64 16), (4, .int .i64 9)]) (mp_cons Ev.c (mp_cons Ev.c (mp_cons Ev.c (mp_cons Ev.c (mp_cons Ev.c mp0))))) (fun w => by kernel_rfl)) (w_val (v := .agg (arr 5 (fun j => .int .i64 (((Su.cell 2 j) : Nat) : Int)))) (y_build (vs := #[(0, .int .i64 3), (1, .int .i64 32), (2, .int .i64 12), (3, .int .i64 16), (4, .int .i64 9)]) (mp_cons Ev.c (mp_cons Ev.c (mp_cons Ev.c (mp_cons Ev.c (mp_cons Ev.c mp0))))) (fun w => by kernel_rfl)) (w_val (v := .agg (arr 5 (fun j => .int .i64 (((Su.cell 3 j) : Nat) : Int)))) (y_build (vs := #[(0, .int .i64 4), (1, .int .i64 32), (2, .int .i64 16), (3, .int .i64 16), (4, .int .i64 11)]) (mp_cons Ev.c (mp_cons Ev.c (mp_cons Ev.c (mp_cons Ev.c (mp_cons Ev.c mp0))))) (fun w => by kernel_rfl)) (w_val (v := .agg (arr 5 (fun j => .int .i64 (((Su.cell 4 j) : Nat) : Int)))) (y_build (vs := #[(0, .int .i64 5), (1, .int .i64 48), (2, .int .i64 16), (3, .int .i64 24), (4, .int .i64 11)]) (mp_cons Ev.c (mp_cons Ev.c (mp_cons Ev.c (mp_cons Ev.c (mp_cons Ev.c mp0))))) (fun w => by kernel_rfl)) (w_val (v := .agg (arr 5 (fun j => .int .i64 (((Su.cell 5 j) : Nat) : Int)))) (y_build (vs := #[(0, .int .i64 6), (1, .int .i64 64), (2, .int .i64 16), (3, .int .i64 32), (4, .int .i64 11)]) (mp_cons Ev.c (mp_cons Ev.c (mp_cons Ev.c (mp_cons Ev.c (mp_cons Ev.c mp0))))) (fun w => by kernel_rfl)) (w_val (v := .agg (arr 5 (fun j => .int .i64 (((Su.cell 6 j) : Nat) : Int)))) (y_build (vs := #[(0, .int .i64 10), (1, .int .i64 16), (2, .int .i64 13), (3, .int .i64 8), (4, .int .i64 10)]) (mp_cons Ev.c (mp_cons Ev.c (mp_cons Ev.c (mp_cons Ev.c (mp_cons Ev.c mp0))))) (fun w => by kernel_rfl)) (w_val (v := .agg (arr 5 (fun j => .int .i64 (((Su.cell 7 j) : Nat) : Int)))) (y_build (vs := #[(0, .int .i64 11), (1, .int .i64 32), (2, .int .i64 13), (3, .int .i64 8), (4, .int .i64 10)]) (mp_cons Ev.c (mp_cons Ev.c (mp_cons Ev.c (mp_cons Ev.c (mp_cons Ev.c mp0))))) (fun w => by kernel_rfl)) (w_val (v := .agg (arr 5 (fun j => .int .i64 (((Su.cell 8 j) : Nat) : Int)))) (y_build (vs := #[(0, .int .i64 12), (1, .int .i64 16), (2, .int .i64 7), (3, .int .i64 8), (4, .int .i64 10)]) (mp_cons Ev.c (mp_cons Ev.c (mp_cons Ev.c (mp_cons Ev.c (mp_cons Ev.c mp0))))) (fun w => by kernel_rfl)) (w_val (v := .agg (arr 5 (fun j => .int .i64 (((Su.cell 9 j) : Nat) : Int)))) (y_build (vs := #[(0, .int .i64 13), (1, .int .i64 32), (2, .int .i64 7), (3, .int .i64 8), (4, .int .i64 10)]) (mp_cons Ev.c (mp_cons Ev.c (mp_cons Ev.c (mp_cons Ev.c (mp_cons Ev.c mp0))))) (fun w => by kernel_rfl)) (w_val (v := .agg (arr 5 (fun j => .int .i64 (((Su.cell 10 j) : Nat) : Int)))) (y_build (vs := #[(0, .int .i64 30), (1, .int .i64 16), (2, .int .i64 13), (3, .int .i64 16), (4, .int .i64 10)]) (mp_cons Ev.c (mp_cons Ev.c (mp_cons Ev.c (mp_cons Ev.c (mp_cons Ev.c mp0))))) (fun w => by kernel_rfl)) (w_val (v := .agg (arr 5 (fun j => .int .i64 (((Su.cell 11 j) : Nat) : Int)))) (y_build (vs := #[(0, .int .i64 31), (1, .int .i64 32), (2, .int .i64 13), (3, .int .i64 16), (4, .int .i64 10)]) (mp_cons Ev.c (mp_cons Ev.c (mp_cons Ev.c (mp_cons Ev.c (mp_cons Ev.c mp0))))) (fun w => by kernel_rfl)) (w_val (v := .agg (arr 5 (fun j => .int .i64 (((Su.cell 12 j) : Nat) : Int)))) (y_build (vs := #[(0, .int .i64 32), (1, .int .i64 16), (2, .int .i64 7), (3, .int .i64 16), (4, .int .i64 10)]) (mp_cons Ev.c (mp_cons Ev.c (mp_cons Ev.c (mp_cons Ev.c (mp_cons Ev.c mp0))))) (fun w => by kernel_rfl)) (w_val (v := .agg (arr 5 (fun j => .int .i64 (((Su.cell 13 j) : Nat) : Int)))) (y_build (vs := #[(0, .int .i64 33), (1, .int .i64 32), (2, .int .i64 7), (3, .int .i64 16), (4, .int .i64 10)]) (mp_cons Ev.c (mp_cons Ev.c (mp_cons Ev.c (mp_cons Ev.c (mp_cons Ev.c mp0))))) (fun w => by kernel_rfl)) (w_val (v := .agg (arr 5 (fun j => .int .i64 (((Su.cell 14 j) : Nat) : Int)))) (y_build (vs := #[(0, .int .i64 104), (1, .int .i64 32), (2, .int .i64 0), (3, .int .i64 8), (4, .int .i64 4)]) (mp_cons Ev.c (mp_cons Ev.c (mp_cons Ev.c (mp_cons Ev.c (mp_cons Ev.c mp0))))) (fun w => by kernel_rfl)) (w_val (v := .agg (arr 5 (fun j => .int .i64 (((Su.cell 15 j) : Nat) : Int)))) (y_build (vs := #[(0, .int .i64 105), (1, .int .i64 32), (2, .int .i64 0), (3, .int .i64 32), (4, .int .i64 4)]) (mp_cons Ev.c (mp_cons Ev.c (mp_cons Ev.c (mp_cons Ev.c (mp_cons Ev.c mp0))))) (fun w => by kernel_rfl)) (w_val (v := .agg (arr 5 (fun j => .int .i64 (((Su.cell 16 j) : Nat) : Int)))) (y_build (vs := #[(0, .int .i64 106), (1, .int .i64 48), (2, .int .i64 0), (3, .int .i64 48), (4, .int .i64 4)]) (mp_cons Ev.c (mp_cons Ev.c (mp_cons Ev.c (mp_cons Ev.c (mp_cons Ev.c mp0))))) (fun w => by kernel_rfl)) (w_val (v := .agg (arr 5 (fun j => .int .i64 (((Su.cell 17 j) : Nat) : Int)))) (y_build (vs := #[(0, .int .i64 107), (1, .int .i64 64), (2, .int .i64 0), (3, .int .i64 64), (4, .int .i64 4)]) (mp_cons Ev.c (mp_cons Ev.c (mp_cons Ev.c (mp_cons Ev.c (mp_cons Ev.c mp0))))) (fun w => by kernel_rfl)) (w_val (v := .agg (arr 5 (fun j => .int .i64 (((Su.cell 18 j) : Nat) : Int)))) (y_build (vs := #[(0, .int .i64 114), (1, .int .i64 16), (2, .int .i64 0), (3, .int .i64 8), (4, .int .i64 6)]) (mp_cons Ev.c (mp_cons Ev.c (mp_cons Ev.c (mp_cons Ev.c (mp_cons Ev.c mp0))))) (fun w => by kernel_rfl)) (w_val (v := .agg (arr 5 (fun j => .int .i64 (((Su.cell 19 j) : Nat) : Int)))) (y_build (vs := #[(0, .int .i64 115), (1, .int .i64 32), (2, .int .i64 0), (3, .int .i64 8), (4, .int .i64 6)]) (mp_cons Ev.c (mp_cons Ev.c (mp_cons Ev.c (mp_cons Ev.c (mp_cons Ev.c mp0))))) (fun w => by kernel_rfl)) (w_val (v := .agg (arr 5 (fun j => .int .i64 (((Su.cell 20 j) : Nat) : Int)))) (y_build (vs := #[(0, .int .i64 125), (1, .int .i64 16), (2, .int .i64 0), (3, .int .i64 16), (4, .int .i64 6)]) (mp_cons Ev.c (mp_cons Ev.c (mp_cons Ev.c (mp_cons Ev.c (mp_cons Ev.c mp0))))) (fun w => by kernel_rfl)) (w_val (v := .agg (arr 5 (fun j => .int .i64 (((Su.cell 21 j) : Nat) : Int)))) (y_build (vs := #[(0, .int .i64 126), (1, .int .i64 32), (2, .int .i64 0), (3, .int .i64 16), (4, .int .i64 6)]) (mp_cons Ev.c (mp_cons Ev.c (mp_cons Ev.c (mp_cons Ev.c (mp_cons Ev.c mp0))))) (fun w => by kernel_rfl)) (w_bsn (k := 22) (m := 110) (e := 43) (F := fun j => .int .i64 (((Su.cell (j / 5) (j % 5)) : Nat) : Int)) (vs := #[(0, .agg (arr 5 (fun j => .int .i64 (((Su.cell 0 j) : Nat) : Int)))), (1, .agg (arr 5 (fun j => .int .i64 (((Su.cell 1 j) : Nat) : Int)))), (2, .agg (arr 5 (fun j => .int .i64 (((Su.cell 2 j) : Nat) : Int)))), (3, .agg (arr 5 (fun j => .int .i64 (((Su.cell 3 j) : Nat) : Int)))), (4, .agg (arr 5 (fun j => .int .i64 (((Su.cell 4 j) : Nat) : Int)))), (5, .agg (arr 5 (fun j => .int .i64 (((Su.cell 5 j) : Nat) : Int)))), (6, .agg (arr 5 (fun j => .int .i64 (((Su.cell 6 j) : Nat) : Int)))), (7, .agg (arr 5 (fun j => .int .i64 (((Su.cell 7 j) : Nat) : Int)))), (8, .agg (arr 5 (fun j => .int .i64 (((Su.cell 8 j) : Nat) : Int)))), (9, .agg (arr 5 (fun j => .int .i64 (((Su.cell 9 j) : Nat) : Int)))), (10, .agg (arr 5 (fun j => .int .i64 (((Su.cell 10 j) : Nat) : Int)))), (11, .agg (arr 5 (fun j => .int .i64 (((Su.cell 11 j) : Nat) : Int)))), (12, .agg (arr 5 (fun j => .int .i64 (((Su.cell 12 j) : Nat) : Int)))), (13, .agg (arr 5 (fun j => .int .i64 (((Su.cell 13 j) : Nat) : Int)))), (14, .agg (arr 5 (fun j => .int .i64 (((Su.cell 14 j) : Nat) : Int)))), (15, .agg (arr 5 (fun j => .int .i64 (((Su.cell 15 j) : Nat) : Int)))), (16, .agg (arr 5 (fun j => .int .i64 (((Su.cell 16 j) : Nat) : Int)))), (17, .agg (arr 5 (fun j => .int .i64 (((Su.cell 17 j) : Nat) : Int)))), (18, .agg (arr 5 (fun j => .int .i64 (((Su.cell 18 j) : Nat) : Int)))), (19, .agg (arr 5 (fun j => .int .i64 (((Su.cell 19 j) : Nat) : Int)))), (20, .agg (arr 5 (fun j => .int .i64 (((Su.cell 20 j) : Nat) : Int)))), (21, .agg (arr 5 (fun j => .int .i64 (((Su.cell 21 j) : Nat) : Int))))]) (mp_cons ea (mp_cons ea (mp_cons ea (mp_cons ea (mp_cons ea (mp_cons ea (mp_cons ea (mp_cons ea (mp_cons ea (mp_cons ea (mp_cons ea (mp_cons ea (mp_cons ea (mp_cons ea (mp_cons ea (mp_cons ea (mp_cons ea (mp_cons ea (mp_cons ea (mp_cons ea (mp_cons ea (mp_cons ea mp0)))))))))))))))))))))) (fun w => by kernel_rfl) ?_))))))))))))))))))))))))))
 intro ad w1 aa ac ae
 have ab := gb_ hk.size aa
 clear aa
 replace hk := thenB hk ae
 refine w_as el (nt (wp_ret (fin_ret1 rfl el ?_)))
 exact ⟨ad, rfl, ab, ac, hk⟩

theorem refOf_y (q : Nat) (hq : q < 22) (w0 : World) : Calls Tryz.prog 14 #[.int .i64 (((Su.al q) : Nat) : Int)] w0 fun e w' => e = .returned (.agg (arr 5 (fun j => if j < 1 then .int .i64 (((Su.al q) : Nat) : Int) else if j < 2 then .int .i64 (((Su.ky q) : Nat) : Int) else if j < 3 then .int .i64 (((Su.iv q) : Nat) : Int) else if j < 4 then .int .i64 (((Su.tg q) : Nat) : Int) else .int .i64 (((Su.ly q) : Nat) : Int)))) ∧ Below w0.heap.size w0 w' := by
 refine enter (n := 24) Tryz.func14 rfl rfl rfl ?_
 have hk : Below w0.heap.size w0 w0 := Below.refl _ _
 refine sr (w_alloc (m := 5) (F := fun j => if j < 1 then .int .i64 0 else if j < 2 then .int .i64 0 else if j < 3 then .int .i64 0 else if j < 4 then .int .i64 0 else .int .i64 0) kr ?_)
 intro ag w1 ab aa au
 have ak := gb_ hk.size ab
 clear ab
 replace hk := thenB hk au
 refine nt (sr (w_call (Tryz.func21) kr rfl m0 (suTable w1) ?_))
 rintro _ w3 ⟨b, rfl, am, ae, ao⟩
 refine ⟨_, rfl, ?_⟩
 have ai : ag ≠ b := by have := aa.lt; omega
 have aq : w0.heap.size ≤ b := by have := hk.size; omega
 replace aa := aa.step ao
 replace hk := thenB hk ao
 refine w_as el (nt (wp_seq (sr (w_as Ev.c (nt (wp_block ?_))))))
 refine c_loop (fun dN aN wl => ∃ (i : Nat), dN = (22 - i) ∧ ∃ f4, aN = fr 24 f4 ∧ (i ≤ q) ∧ f4 0 = .int .i64 (((Su.al q) : Nat) : Int) ∧ f4 2 = pt ag 0 ∧ f4 3 = .slice (some ⟨b, 0, none⟩) 22 22 ∧ f4 4 = .int .i64 ((i : Nat) : Int) ∧ Row wl ag 43 5 (fun j => if j < 1 then .int .i64 0 else if j < 2 then .int .i64 0 else if j < 3 then .int .i64 0 else if j < 4 then .int .i64 0 else .int .i64 0) ∧ Row wl b 43 110 (fun j => .int .i64 (((Su.cell (j / 5) (j % 5)) : Nat) : Int)) ∧ Below w0.heap.size w0 wl) (22 - 0) ?_ ?_
 · exact ⟨0, rfl, _, rfl, (by first | omega | (have aj : i ≠ q := fun e => absurd (show ((Su.cell i 0 : Nat) : Int) = ((Su.al q : Nat) : Int) from (by rw [e]; rfl)) (by assumption); omega)), rfl, rfl, rfl, ti, aa, ae, hk⟩
 ·skip
  clear aa ae hk
  rintro _ _ w5 ⟨i, rfl, f4, rfl, ap, ah, af, ac, ad, aa, ae, hk⟩
  refine wp_seq (sr (w_mv (ei ad) (w_mv (el ac) (w_val (v := .int .i64 22) (y_len_sl el Tryz.underlying53) (w_val (y_bin ei ei b_lss) (nt ?_))))))
  refine c_if (p := ((i : Nat) : Int) < 22) eb (fun hc6 => ?_) (fun hc6 => ?_)
  ·skip
   refine wp_skip (then_n (wp_seq (wp_block (sr (w_mv (el ac) (w_mv (ei ad) (w_val (v := pt b (i * 5)) (y_off (y_is (i := i) el ei Tryz.underlying53 SuAT.sz43 om om) ro) (w_val (v := pt b (i * 5)) (y_off (y_fa (ex (pt b (i * 5))) (SuAT.fa43_0 _ _)) ro) (w_val (v := .int .i64 (((Su.cell i 0) : Nat) : Int)) (y_ld (ex (pt b (i * 5))) SuAT.sc3 (ae.val om (by (try dsimp only); rw [show (i * 5) / 5 = i from by omega, show (i * 5) % 5 = 0 from by omega]))) (w_mv (ei ah) (w_val (y_bin ei ei b_eql) (nt ?_))))))))))))
   refine c_if (p := (((Su.cell i 0) : Nat) : Int) = (((Su.al q) : Nat) : Int)) eb (fun hc7 => ?_) (fun hc7 => ?_)
   ·skip
    refine wp_seq ?_
    have ar : i = q := Su.al_inj i q om hq (by have h1 : ((Su.cell i 0 : Nat) : Int) = ((Su.al q : Nat) : Int) := (by assumption); exact Int.ofNat.inj h1)
    refine wp_region_lit (w_mv (el ac) ?_)
    refine w_mv (ex (.int .i64 ((q : Nat) : Int)) (by refine Eq.trans (b := .int .i64 ((i : Nat) : Int)) ?_ ?_; exact ad; (exact congrArg (fun k : Nat => Value.int .i64 (k : Int)) ar))) ?_
    refine w_val (v := pt b (q * 5)) (y_off (y_is (i := q) el ei Tryz.underlying53 SuAT.sz43 om om) ro) (w_val (v := .agg (arr 5 (fun j => .int .i64 (((Su.cell q j) : Nat) : Int)))) (y_lda (ex (pt b (q * 5))) SuAT.ag43 SuAT.sz43 (fun j hj => (ae.val om (by first | with_reducible rfl | exact (by (try dsimp only); rw [show ((q * 5) + j) / 5 = q from by omega, show ((q * 5) + j) % 5 = j from by omega]))))) (w_sta (k := 5) (G := fun j => .int .i64 (((Su.cell q j) : Nat) : Int)) (ex (pt ag 0) af) ea oc SuAT.sz43 aa om ?_))
    clear aa; intro w8 aa an _
    replace aa := aa.congr (g := fun j => .int .i64 (((Su.cell q j) : Nat) : Int)) (fun j hj => by rw [if_pos ⟨Nat.zero_le _, by omega⟩]; first | rfl | (simp only [Nat.sub_zero]))
    replace ae := ae.stepG an om
    replace hk := thenG hk an om
    refine nt (wp_ret (inb_r (then_r (then_r (inb_r (then_r (fin_arr (F := fun j => .int .i64 (((Su.cell q j) : Nat) : Int)) rfl (ex (pt ag 0) af) SuAT.ag43 SuAT.sz43 aa om ?_)))))))
    refine ⟨congrArg Ending.returned ?_, hk⟩
    show (.agg (arr 5 (fun j => .int .i64 (((Su.cell q j) : Nat) : Int))) : Value) = .agg (arr 5 (fun j => if j < 1 then .int .i64 (((Su.al q) : Nat) : Int) else if j < 2 then .int .i64 (((Su.ky q) : Nat) : Int) else if j < 3 then .int .i64 (((Su.iv q) : Nat) : Int) else if j < 4 then .int .i64 (((Su.tg q) : Nat) : Int) else .int .i64 (((Su.ly q) : Nat) : Int)))
    kernel_rfl
   ·skip
    refine wp_skip (inb_n (then_n (wp_region_lit (w_mv (ei ad) (w_val (y_bin ei Ev.c (b_add om)) (w_as ei (wpList_nil ?_)))))))
    exact then_n ⟨_, om, i + 1, rfl, _, rfl, (by first | omega | (have aj : i ≠ q := fun e => absurd (show ((Su.cell i 0 : Nat) : Int) = ((Su.al q : Nat) : Int) from (by rw [e]; rfl)) (by assumption); omega)), ah, af, ac, ti, aa, ae, hk⟩
  ·skip
   refine wp_exit (then_x (then_x (inb_x (then_n (wp_seq ?_)))))
   exfalso; omega

theorem refOf_n (alg : Int) (hn : ∀ i : Nat, i < 22 → ((Su.al i : Nat) : Int) ≠ alg) (w0 : World) : Calls Tryz.prog 14 #[.int .i64 alg] w0 fun e w' => e = .returned (.agg (arr 5 (fun j => if j < 1 then .int .i64 0 else if j < 2 then .int .i64 0 else if j < 3 then .int .i64 0 else if j < 4 then .int .i64 0 else .int .i64 0))) ∧ Below w0.heap.size w0 w' := by
 refine enter (n := 24) Tryz.func14 rfl rfl rfl ?_
 have hk : Below w0.heap.size w0 w0 := Below.refl _ _
 refine sr (w_alloc (m := 5) (F := fun j => if j < 1 then .int .i64 0 else if j < 2 then .int .i64 0 else if j < 3 then .int .i64 0 else if j < 4 then .int .i64 0 else .int .i64 0) kr ?_)
 intro ag w1 ab aa aq
 have aj := gb_ hk.size ab
 clear ab
 replace hk := thenB hk aq
 refine nt (sr (w_call (Tryz.func21) kr rfl m0 (suTable w1) ?_))
 rintro _ w3 ⟨b, rfl, ak, af, an⟩
 refine ⟨_, rfl, ?_⟩
 have ai : ag ≠ b := by have := aa.lt; omega
 have ap : w0.heap.size ≤ b := by have := hk.size; omega
 replace aa := aa.step an
 replace hk := thenB hk an
 refine w_as el (nt (wp_seq (sr (w_as Ev.c (nt (wp_block ?_))))))
 refine c_loop (fun dN aN wl => ∃ (i : Nat), dN = (22 - i) ∧ ∃ f4, aN = fr 24 f4 ∧ (i ≤ 22) ∧ f4 0 = .int .i64 alg ∧ f4 2 = pt ag 0 ∧ f4 3 = .slice (some ⟨b, 0, none⟩) 22 22 ∧ f4 4 = .int .i64 ((i : Nat) : Int) ∧ Row wl ag 43 5 (fun j => if j < 1 then .int .i64 0 else if j < 2 then .int .i64 0 else if j < 3 then .int .i64 0 else if j < 4 then .int .i64 0 else .int .i64 0) ∧ Row wl b 43 110 (fun j => .int .i64 (((Su.cell (j / 5) (j % 5)) : Nat) : Int)) ∧ Below w0.heap.size w0 wl) (22 - 0) ?_ ?_
 · exact ⟨0, rfl, _, rfl, om, rfl, rfl, rfl, ti, aa, af, hk⟩
 ·skip
  clear aa af hk
  rintro _ _ w5 ⟨i, rfl, f4, rfl, ao, ah, ae, ac, ad, aa, af, hk⟩
  refine wp_seq (sr (w_mv (ei ad) (w_mv (el ac) (w_val (v := .int .i64 22) (y_len_sl el Tryz.underlying53) (w_val (y_bin ei ei b_lss) (nt ?_))))))
  refine c_if (p := ((i : Nat) : Int) < 22) eb (fun hc6 => ?_) (fun hc6 => ?_)
  ·skip
   refine wp_skip (then_n (wp_seq (wp_block (sr (w_mv (el ac) (w_mv (ei ad) (w_val (v := pt b (i * 5)) (y_off (y_is (i := i) el ei Tryz.underlying53 SuAT.sz43 om om) ro) (w_val (v := pt b (i * 5)) (y_off (y_fa (ex (pt b (i * 5))) (SuAT.fa43_0 _ _)) ro) (w_val (v := .int .i64 (((Su.cell i 0) : Nat) : Int)) (y_ld (ex (pt b (i * 5))) SuAT.sc3 (af.val om (by (try dsimp only); rw [show (i * 5) / 5 = i from by omega, show (i * 5) % 5 = 0 from by omega]))) (w_mv (ei ah) (w_val (y_bin ei ei b_eql) (nt ?_))))))))))))
   refine c_if (p := (((Su.cell i 0) : Nat) : Int) = alg) eb (fun hc7 => ?_) (fun hc7 => ?_)
   ·skip
    refine wp_seq ?_
    exact absurd (show ((Su.al i : Nat) : Int) = alg by assumption) (hn i om)
   ·skip
    refine wp_skip (inb_n (then_n (wp_region_lit (w_mv (ei ad) (w_val (y_bin ei Ev.c (b_add om)) (w_as ei (wpList_nil ?_)))))))
    exact then_n ⟨_, om, i + 1, rfl, _, rfl, om, ah, ae, ac, ti, aa, af, hk⟩
  ·skip
   refine wp_exit (then_x (then_x (inb_x (then_n (sr (w_val (v := .agg (arr 5 (fun j => if j < 1 then .int .i64 0 else if j < 2 then .int .i64 0 else if j < 3 then .int .i64 0 else if j < 4 then .int .i64 0 else .int .i64 0))) (y_build (vs := #[]) mp0 (fun w => by kernel_rfl)) (w_sta (k := 5) (G := fun j => if j < 1 then .int .i64 0 else if j < 2 then .int .i64 0 else if j < 3 then .int .i64 0 else if j < 4 then .int .i64 0 else .int .i64 0) (ex (pt ag 0) ae) ea oc SuAT.sz43 aa om ?_)))))))
   clear aa; intro w8 aa am _
   replace aa := aa.congr (g := fun j => if j < 1 then .int .i64 0 else if j < 2 then .int .i64 0 else if j < 3 then .int .i64 0 else if j < 4 then .int .i64 0 else .int .i64 0) (fun j hj => by rw [if_pos ⟨Nat.zero_le _, by omega⟩]; first | rfl | (simp only [Nat.sub_zero]))
   replace af := af.stepG am om
   replace hk := thenG hk am om
   refine nt (wp_ret (fin_arr (F := fun j => if j < 1 then .int .i64 0 else if j < 2 then .int .i64 0 else if j < 3 then .int .i64 0 else if j < 4 then .int .i64 0 else .int .i64 0) rfl (ex (pt ag 0) ae) SuAT.ag43 SuAT.sz43 aa om ?_))
   exact ⟨rfl, hk⟩
end Go.Proofs.YtdmbfimjbmfbaaaGreatDoor
