/-
  The law CbchsBack answers true. No conditions.
-/
import Derived.Test.YtepogbfkmflooaaDoorRows
import Derived.Test.YtepogbfkmflooaaDoorChWakes
import Derived.Test.YtepogbfkmflooaaDoorGenSh
import Derived.ProofKit
namespace Go.Proofs.YtepogbfkmflooaaDoor
open Go.RowKit
set_option linter.unusedSimpArgs false
set_option linter.unusedVariables false
set_option maxRecDepth 100000
set_option maxHeartbeats 1000000
namespace ChLawBT
theorem mixed : Tryd.prog.follows .mixedOrders = true := by kernel_rfl
theorem fa23_0 (g off : Nat) : ∀ w, (Instr.fieldAt 23 (.pointer (some ⟨g, off, none⟩)) 0).run Tryd.prog w = .ok (.pointer (some ⟨g, off + 0, none⟩)) w := fun w => by kernel_rfl
theorem fa23_1 (g off : Nat) : ∀ w, (Instr.fieldAt 23 (.pointer (some ⟨g, off, none⟩)) 1).run Tryd.prog w = .ok (.pointer (some ⟨g, off + 1, none⟩)) w := fun w => by kernel_rfl
theorem fa23_2 (g off : Nat) : ∀ w, (Instr.fieldAt 23 (.pointer (some ⟨g, off, none⟩)) 2).run Tryd.prog w = .ok (.pointer (some ⟨g, off + 2, none⟩)) w := fun w => by kernel_rfl
theorem sc9 : (Tryd.prog.underlying 9).map scal = some true := by rw [Tryd.underlying9]; rfl
end ChLawBT
theorem cbchsBack_k (key vi aad : List (BitVec 8)) (hk_ : ¬ (key.length = 32 ∨ key.length = 48 ∨ key.length = 64)) (text : List (BitVec 8)) (ht_ : text.length ≤ 140737488351232) (w0 : World) (hT : Sha.Tabs w0) : Calls Tryd.prog 3 #[.agg (arr 3 (fun j => if j < 1 then .string (str key) else if j < 2 then .string (str vi) else .string (str aad))), .string (str text)] w0 fun e w' => e = .returned (.bool true) ∧ Below w0.heap.size w0 w' := by
 refine enter (n := 44) Tryd.func3 rfl rfl rfl ?_
 have hk : Below w0.heap.size w0 w0 := Below.refl _ _
 refine sr (w_box (m := 3) (F := fun j => if j < 1 then .string (str key) else if j < 2 then .string (str vi) else .string (str aad)) ea rfl ?_)
 intro ac w1 ab aa ag
 have af := gb_ hk.size ab
 clear ab
 replace hk := thenB hk ag
 replace hT := Sha.Tabs.below hT ag
 refine w_as Ev.c (nt (wp_seq (sr (w_call (Tryd.func5) kr rfl m0 (chWakes_c  w1 hT) ?_))))
 rintro _ w3 ⟨rfl, ae⟩
 refine ⟨_, rfl, ?_⟩
 replace aa := aa.step ae
 replace hk := thenB hk ae
 replace hT := Sha.Tabs.below hT ae
 refine w_val (y_not eb) (nt (c_ff eb (wp_skip (then_n (sr (w_val (v := pt ac 0) (y_off (y_fa (ex (pt ac 0)) (ChLawBT.fa23_0 _ _)) ro) (w_val (v := .string (str key)) (y_ld (ex (pt ac 0)) ChLawBT.sc9 (aa.val om pz)) (w_val (v := pt ac 1) (y_off (y_fa (ex (pt ac 0)) (ChLawBT.fa23_1 _ _)) ro) (w_val (v := .string (str vi)) (y_ld (ex (pt ac 1)) ChLawBT.sc9 (aa.val om (ng pz))) (w_val (v := pt ac 2) (y_off (y_fa (ex (pt ac 0)) (ChLawBT.fa23_2 _ _)) ro) (w_val (v := .string (str aad)) (y_ld (ex (pt ac 2)) ChLawBT.sc9 (aa.val om (ng (ng dv)))) (w_mv es (w_call (Tryd.func6) kr rfl (m4 es es es es) (chSeal_k key vi aad hk_ text w3) ?_)))))))))))))
 rintro _ w5 ⟨rfl, ad⟩
 refine ⟨_, rfl, ?_⟩
 replace aa := aa.step ad
 replace hk := thenB hk ad
 replace hT := Sha.Tabs.below hT ad
 refine w_mv (ex (.tuple #[.string (str ([] : List (BitVec 8))), .int .i64 3])) (w_val ye (w_val ye (w_as es (w_as ei (nt (wp_seq (sr (w_mv ei (w_val (y_bin ei Ev.c b_neq) (nt (c_tt eb (sr (w_mv es (w_val (y_bin es (evc (.string (str ([] : List (BitVec 8))))) b_eqs_same) (w_as eb (nt (wp_ret (then_r (fin_ret1 rfl eb ?_)))))))))))))))))))
 exact ⟨rfl, hk⟩

theorem cbchsBack_i (key vi aad : List (BitVec 8)) (n kind : Nat) (hkd : Sha.Known kind) (hkn : kind = 16 * n) (hkl : key.length = 2 * n) (hiv : vi.length ≠ 16) (text : List (BitVec 8)) (ht_ : text.length ≤ 140737488351232) (w0 : World) (hT : Sha.Tabs w0) : Calls Tryd.prog 3 #[.agg (arr 3 (fun j => if j < 1 then .string (str key) else if j < 2 then .string (str vi) else .string (str aad))), .string (str text)] w0 fun e w' => e = .returned (.bool true) ∧ Below w0.heap.size w0 w' := by
 refine enter (n := 44) Tryd.func3 rfl rfl rfl ?_
 have hk : Below w0.heap.size w0 w0 := Below.refl _ _
 refine sr (w_box (m := 3) (F := fun j => if j < 1 then .string (str key) else if j < 2 then .string (str vi) else .string (str aad)) ea rfl ?_)
 intro ac w1 ab aa ag
 have af := gb_ hk.size ab
 clear ab
 replace hk := thenB hk ag
 replace hT := Sha.Tabs.below hT ag
 refine w_as Ev.c (nt (wp_seq (sr (w_call (Tryd.func5) kr rfl m0 (chWakes_c  w1 hT) ?_))))
 rintro _ w3 ⟨rfl, ae⟩
 refine ⟨_, rfl, ?_⟩
 replace aa := aa.step ae
 replace hk := thenB hk ae
 replace hT := Sha.Tabs.below hT ae
 refine w_val (y_not eb) (nt (c_ff eb (wp_skip (then_n (sr (w_val (v := pt ac 0) (y_off (y_fa (ex (pt ac 0)) (ChLawBT.fa23_0 _ _)) ro) (w_val (v := .string (str key)) (y_ld (ex (pt ac 0)) ChLawBT.sc9 (aa.val om pz)) (w_val (v := pt ac 1) (y_off (y_fa (ex (pt ac 0)) (ChLawBT.fa23_1 _ _)) ro) (w_val (v := .string (str vi)) (y_ld (ex (pt ac 1)) ChLawBT.sc9 (aa.val om (ng pz))) (w_val (v := pt ac 2) (y_off (y_fa (ex (pt ac 0)) (ChLawBT.fa23_2 _ _)) ro) (w_val (v := .string (str aad)) (y_ld (ex (pt ac 2)) ChLawBT.sc9 (aa.val om (ng (ng dv)))) (w_mv es (w_call (Tryd.func6) kr rfl (m4 es es es es) (chSeal_i key vi aad n kind hkd hkn hkl hiv text w3) ?_)))))))))))))
 rintro _ w5 ⟨rfl, ad⟩
 refine ⟨_, rfl, ?_⟩
 replace aa := aa.step ad
 replace hk := thenB hk ad
 replace hT := Sha.Tabs.below hT ad
 refine w_mv (ex (.tuple #[.string (str ([] : List (BitVec 8))), .int .i64 4])) (w_val ye (w_val ye (w_as es (w_as ei (nt (wp_seq (sr (w_mv ei (w_val (y_bin ei Ev.c b_neq) (nt (c_tt eb (sr (w_mv es (w_val (y_bin es (evc (.string (str ([] : List (BitVec 8))))) b_eqs_same) (w_as eb (nt (wp_ret (then_r (fin_ret1 rfl eb ?_)))))))))))))))))))
 exact ⟨rfl, hk⟩

theorem cbchsBack_a (key vi aad : List (BitVec 8)) (n kind : Nat) (hkd : Sha.Known kind) (hkn : kind = 16 * n) (hkl : key.length = 2 * n) (hiv : vi.length = 16) (ha : 70000 < aad.length) (text : List (BitVec 8)) (ht_ : text.length ≤ 140737488351232) (w0 : World) (hT : Sha.Tabs w0) : Calls Tryd.prog 3 #[.agg (arr 3 (fun j => if j < 1 then .string (str key) else if j < 2 then .string (str vi) else .string (str aad))), .string (str text)] w0 fun e w' => e = .returned (.bool true) ∧ Below w0.heap.size w0 w' := by
 refine enter (n := 44) Tryd.func3 rfl rfl rfl ?_
 have hk : Below w0.heap.size w0 w0 := Below.refl _ _
 refine sr (w_box (m := 3) (F := fun j => if j < 1 then .string (str key) else if j < 2 then .string (str vi) else .string (str aad)) ea rfl ?_)
 intro ac w1 ab aa ag
 have af := gb_ hk.size ab
 clear ab
 replace hk := thenB hk ag
 replace hT := Sha.Tabs.below hT ag
 refine w_as Ev.c (nt (wp_seq (sr (w_call (Tryd.func5) kr rfl m0 (chWakes_c  w1 hT) ?_))))
 rintro _ w3 ⟨rfl, ae⟩
 refine ⟨_, rfl, ?_⟩
 replace aa := aa.step ae
 replace hk := thenB hk ae
 replace hT := Sha.Tabs.below hT ae
 refine w_val (y_not eb) (nt (c_ff eb (wp_skip (then_n (sr (w_val (v := pt ac 0) (y_off (y_fa (ex (pt ac 0)) (ChLawBT.fa23_0 _ _)) ro) (w_val (v := .string (str key)) (y_ld (ex (pt ac 0)) ChLawBT.sc9 (aa.val om pz)) (w_val (v := pt ac 1) (y_off (y_fa (ex (pt ac 0)) (ChLawBT.fa23_1 _ _)) ro) (w_val (v := .string (str vi)) (y_ld (ex (pt ac 1)) ChLawBT.sc9 (aa.val om (ng pz))) (w_val (v := pt ac 2) (y_off (y_fa (ex (pt ac 0)) (ChLawBT.fa23_2 _ _)) ro) (w_val (v := .string (str aad)) (y_ld (ex (pt ac 2)) ChLawBT.sc9 (aa.val om (ng (ng dv)))) (w_mv es (w_call (Tryd.func6) kr rfl (m4 es es es es) (chSeal_a key vi aad n kind hkd hkn hkl hiv ha text w3) ?_)))))))))))))
 rintro _ w5 ⟨rfl, ad⟩
 refine ⟨_, rfl, ?_⟩
 replace aa := aa.step ad
 replace hk := thenB hk ad
 replace hT := Sha.Tabs.below hT ad
 refine w_mv (ex (.tuple #[.string (str ([] : List (BitVec 8))), .int .i64 6])) (w_val ye (w_val ye (w_as es (w_as ei (nt (wp_seq (sr (w_mv ei (w_val (y_bin ei Ev.c b_neq) (nt (c_tt eb (sr (w_mv es (w_val (y_bin es (evc (.string (str ([] : List (BitVec 8))))) b_eqs_same) (w_as eb (nt (wp_ret (then_r (fin_ret1 rfl eb ?_)))))))))))))))))))
 exact ⟨rfl, hk⟩

theorem cbchsBack_z (key vi aad : List (BitVec 8)) (n kind : Nat) (hkd : Sha.Known kind) (hkn : kind = 16 * n) (hkl : key.length = 2 * n) (hiv : vi.length = 16) (ha : aad.length ≤ 70000) (text : List (BitVec 8)) (ht_ : text.length ≤ 140737488351232) (hz : 70000 < text.length) (w0 : World) (hT : Sha.Tabs w0) : Calls Tryd.prog 3 #[.agg (arr 3 (fun j => if j < 1 then .string (str key) else if j < 2 then .string (str vi) else .string (str aad))), .string (str text)] w0 fun e w' => e = .returned (.bool true) ∧ Below w0.heap.size w0 w' := by
 refine enter (n := 44) Tryd.func3 rfl rfl rfl ?_
 have hk : Below w0.heap.size w0 w0 := Below.refl _ _
 refine sr (w_box (m := 3) (F := fun j => if j < 1 then .string (str key) else if j < 2 then .string (str vi) else .string (str aad)) ea rfl ?_)
 intro ac w1 ab aa ag
 have af := gb_ hk.size ab
 clear ab
 replace hk := thenB hk ag
 replace hT := Sha.Tabs.below hT ag
 refine w_as Ev.c (nt (wp_seq (sr (w_call (Tryd.func5) kr rfl m0 (chWakes_c  w1 hT) ?_))))
 rintro _ w3 ⟨rfl, ae⟩
 refine ⟨_, rfl, ?_⟩
 replace aa := aa.step ae
 replace hk := thenB hk ae
 replace hT := Sha.Tabs.below hT ae
 refine w_val (y_not eb) (nt (c_ff eb (wp_skip (then_n (sr (w_val (v := pt ac 0) (y_off (y_fa (ex (pt ac 0)) (ChLawBT.fa23_0 _ _)) ro) (w_val (v := .string (str key)) (y_ld (ex (pt ac 0)) ChLawBT.sc9 (aa.val om pz)) (w_val (v := pt ac 1) (y_off (y_fa (ex (pt ac 0)) (ChLawBT.fa23_1 _ _)) ro) (w_val (v := .string (str vi)) (y_ld (ex (pt ac 1)) ChLawBT.sc9 (aa.val om (ng pz))) (w_val (v := pt ac 2) (y_off (y_fa (ex (pt ac 0)) (ChLawBT.fa23_2 _ _)) ro) (w_val (v := .string (str aad)) (y_ld (ex (pt ac 2)) ChLawBT.sc9 (aa.val om (ng (ng dv)))) (w_mv es (w_call (Tryd.func6) kr rfl (m4 es es es es) (chSeal_z key vi aad n kind hkd hkn hkl hiv ha text om hz w3) ?_)))))))))))))
 rintro _ w5 ⟨rfl, ad⟩
 refine ⟨_, rfl, ?_⟩
 replace aa := aa.step ad
 replace hk := thenB hk ad
 replace hT := Sha.Tabs.below hT ad
 refine w_mv (ex (.tuple #[.string (str ([] : List (BitVec 8))), .int .i64 6])) (w_val ye (w_val ye (w_as es (w_as ei (nt (wp_seq (sr (w_mv ei (w_val (y_bin ei Ev.c b_neq) (nt (c_tt eb (sr (w_mv es (w_val (y_bin es (evc (.string (str ([] : List (BitVec 8))))) b_eqs_same) (w_as eb (nt (wp_ret (then_r (fin_ret1 rfl eb ?_)))))))))))))))))))
 exact ⟨rfl, hk⟩

theorem cbchsBack_y (key vi aad : List (BitVec 8)) (n kind : Nat) (hkd : Sha.Known kind) (hkn : kind = 16 * n) (hkl : key.length = 2 * n) (hiv : vi.length = 16) (ha : aad.length ≤ 70000) (text : List (BitVec 8)) (ht_ : text.length ≤ 140737488351232) (hz : text.length ≤ 70000) (w0 : World) (hT : Sha.Tabs w0) : Calls Tryd.prog 3 #[.agg (arr 3 (fun j => if j < 1 then .string (str key) else if j < 2 then .string (str vi) else .string (str aad))), .string (str text)] w0 fun e w' => e = .returned (.bool true) ∧ Below w0.heap.size w0 w' := by
 refine enter (n := 44) Tryd.func3 rfl rfl rfl ?_
 have hk : Below w0.heap.size w0 w0 := Below.refl _ _
 refine sr (w_box (m := 3) (F := fun j => if j < 1 then .string (str key) else if j < 2 then .string (str vi) else .string (str aad)) ea rfl ?_)
 intro ab w1 ac aa ah
 have ag := gb_ hk.size ac
 clear ac
 replace hk := thenB hk ah
 replace hT := Sha.Tabs.below hT ah
 refine w_as Ev.c (nt (wp_seq (sr (w_call (Tryd.func5) kr rfl m0 (chWakes_c  w1 hT) ?_))))
 rintro _ w3 ⟨rfl, ae⟩
 refine ⟨_, rfl, ?_⟩
 replace aa := aa.step ae
 replace hk := thenB hk ae
 replace hT := Sha.Tabs.below hT ae
 refine w_val (y_not eb) (nt (c_ff eb (wp_skip (then_n (sr (w_val (v := pt ab 0) (y_off (y_fa (ex (pt ab 0)) (ChLawBT.fa23_0 _ _)) ro) (w_val (v := .string (str key)) (y_ld (ex (pt ab 0)) ChLawBT.sc9 (aa.val om pz)) (w_val (v := pt ab 1) (y_off (y_fa (ex (pt ab 0)) (ChLawBT.fa23_1 _ _)) ro) (w_val (v := .string (str vi)) (y_ld (ex (pt ab 1)) ChLawBT.sc9 (aa.val om (ng pz))) (w_val (v := pt ab 2) (y_off (y_fa (ex (pt ab 0)) (ChLawBT.fa23_2 _ _)) ro) (w_val (v := .string (str aad)) (y_ld (ex (pt ab 2)) ChLawBT.sc9 (aa.val om (ng (ng dv)))) (w_mv es (w_call (Tryd.func6) kr rfl (m4 es es es es) (chSeal_y key vi aad n kind hkd hkn hkl hiv ha text om hz w3 hT) ?_)))))))))))))
 rintro _ w5 ⟨rfl, ad⟩
 refine ⟨_, rfl, ?_⟩
 replace aa := aa.step ad
 replace hk := thenB hk ad
 replace hT := Sha.Tabs.below hT ad
 refine w_mv (ex (.tuple #[.string (str (Ch.sealed kind n key vi aad text)), .int .i64 0])) (w_val ye (w_val ye (w_as es (w_as ei (nt (wp_seq (sr (w_mv ei (w_val (y_bin ei Ev.c b_neq) (nt (c_ff eb (wp_skip (then_n (sr (w_val (v := pt ab 0) (y_off (y_fa (ex (pt ab 0)) (ChLawBT.fa23_0 _ _)) ro) (w_val (v := .string (str key)) (y_ld (ex (pt ab 0)) ChLawBT.sc9 (aa.val om pz)) (w_val (v := pt ab 1) (y_off (y_fa (ex (pt ab 0)) (ChLawBT.fa23_1 _ _)) ro) (w_val (v := .string (str vi)) (y_ld (ex (pt ab 1)) ChLawBT.sc9 (aa.val om (ng pz))) (w_val (v := pt ab 2) (y_off (y_fa (ex (pt ab 0)) (ChLawBT.fa23_2 _ _)) ro) (w_val (v := .string (str aad)) (y_ld (ex (pt ab 2)) ChLawBT.sc9 (aa.val om (ng (ng dv)))) (w_mv es (w_call (Tryd.func7) kr rfl (m4 es es es es) (chOpenBack key vi aad n kind hkd hkn hkl hiv ha text hz w5 hT) ?_))))))))))))))))))))))
 rintro _ w7 ⟨rfl, af⟩
 refine ⟨_, rfl, ?_⟩
 replace aa := aa.step af
 replace hk := thenB hk af
 replace hT := Sha.Tabs.below hT af
 refine w_mv (ex (.tuple #[.string (str text), .int .i64 0])) (w_val ye (w_val ye (w_as es (w_as ei (nt (sr (w_mv ei (w_val (y_bin ei Ev.c b_eql) (w_mv eb (w_val_g (v := .string (str text)) (wy rfl rfl eb) (y_mv es) (w_val_g (v := .string (str text)) (wy rfl rfl eb) (y_mv es) (w_val_g (wy rfl rfl eb) (y_bin es es b_eqs_same) (w_val (y_pick_t eb eb) (w_as eb (nt (wp_ret (fin_ret1 rfl eb ?_)))))))))))))))))
 exact ⟨rfl, hk⟩

theorem walk_CbchsBack (key : List (BitVec 8)) (hkey : key.length ≤ 140737488351232) (vi : List (BitVec 8)) (hvi : vi.length ≤ 140737488351232) (aad : List (BitVec 8)) (ha_ : aad.length ≤ 140737488351232) (text : List (BitVec 8)) (ht_ : text.length ≤ 140737488351232) (w : World) (hT : Sha.Tabs w) : Calls Tryd.prog 3 #[.agg #[.string (str key), .string (str vi), .string (str aad)], .string (str text)] w fun e w' => e = .returned (.bool true) ∧ Below w.heap.size w w' := by
  by_cases ad : key.length = 32 ∨ key.length = 48 ∨ key.length = 64
  · obtain ⟨n, aa⟩ : ∃ n, key.length = 2 * n := ⟨key.length / 2, by omega⟩
    have ab : Sha.Known (16 * n) := by unfold Sha.Known; omega
    by_cases ac : vi.length = 16
    · by_cases ha : aad.length ≤ 70000
      · by_cases hz : text.length ≤ 70000
        · exact cbchsBack_y key vi aad n _ ab rfl aa ac ha text ht_ hz w hT
        · exact cbchsBack_z key vi aad n _ ab rfl aa ac ha text ht_ om w hT
      · exact cbchsBack_a key vi aad n _ ab rfl aa ac om text ht_ w hT
    · exact cbchsBack_i key vi aad n _ ab rfl aa ac text ht_ w hT
  · exact cbchsBack_k key vi aad ad text ht_ w hT
end Go.Proofs.YtepogbfkmflooaaDoor
