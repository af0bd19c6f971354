/-
  The law CcmGreat answers true. No conditions.
-/
import Derived.Test.YtjdcpejcnmpiaaaRows
import Derived.Test.YtjdcpejcnmpiaaaCcmWakes
import Derived.Test.YtjdcpejcnmpiaaaGenSh
import Derived.ProofKit
namespace Go.Proofs.Ytjdcpejcnmpiaaa
open Go.RowKit
set_option linter.unusedSimpArgs false
set_option linter.unusedVariables false
set_option maxRecDepth 100000
set_option maxHeartbeats 1000000
namespace CcmLawGT
theorem mixed : Try.prog.follows .mixedOrders = true := by kernel_rfl
theorem ag49 : (Try.prog.underlying 49).map isAggD = some true := by rw [Try.underlying49]; rfl
theorem fa49_0 (g off : Nat) : ∀ w, (Instr.fieldAt 49 (.pointer (some ⟨g, off, none⟩)) 0).run Try.prog w = .ok (.pointer (some ⟨g, off + 0, none⟩)) w := fun w => by kernel_rfl
theorem fa49_1 (g off : Nat) : ∀ w, (Instr.fieldAt 49 (.pointer (some ⟨g, off, none⟩)) 1).run Try.prog w = .ok (.pointer (some ⟨g, off + 1, none⟩)) w := fun w => by kernel_rfl
theorem fa49_2 (g off : Nat) : ∀ w, (Instr.fieldAt 49 (.pointer (some ⟨g, off, none⟩)) 2).run Try.prog w = .ok (.pointer (some ⟨g, off + 2, none⟩)) w := fun w => by kernel_rfl
theorem fa49_3 (g off : Nat) : ∀ w, (Instr.fieldAt 49 (.pointer (some ⟨g, off, none⟩)) 3).run Try.prog w = .ok (.pointer (some ⟨g, off + 3, none⟩)) w := fun w => by kernel_rfl
theorem sc3 : (Try.prog.underlying 3).map scal = some true := by rw [Try.underlying3]; rfl
theorem sc9 : (Try.prog.underlying 9).map scal = some true := by rw [Try.underlying9]; rfl
theorem sz3 : (Try.prog.info? 3).map (·.size) = some 1 := by kernel_rfl
theorem sz49 : (Try.prog.info? 49).map (·.size) = some 4 := by kernel_rfl
theorem sz53 : (Try.prog.info? 53).map (·.size) = some 8 := by kernel_rfl
theorem sz9 : (Try.prog.info? 9).map (·.size) = some 1 := by kernel_rfl
end CcmLawGT
theorem ccmGreatX_k (key nonce ad : List (BitVec 8)) (av tv : BitVec 8) (hx : (0#8).toNat < (av % 8#8).toNat ∧ (0#8).toNat < (tv % 8#8).toNat) (size : Int) (hok : ¬ Aes.okKey key.length) (w0 : World) : Calls Try.prog 16 #[.agg (arr 4 (fun j => if j < 1 then .string (str key) else if j < 2 then .string (str nonce) else if j < 3 then .string (str ad) else .int .i64 size)), U8 av, U8 tv] w0 fun e w' => e = .returned (.bool true) ∧ Below w0.heap.size w0 w' := by
 have hm8 : ∀ x : BitVec 8, (x % 8#8).toNat < 8 := fun x => by rw [BitVec.toNat_umod]; exact Nat.mod_lt _ (by decide)
 have h8a := hm8 av
 have h8t := hm8 tv
 have h80 := hm8 0#8
 have hsa := Cm.sizes_le ((av % 8#8).toNat)
 have hst := Cm.sizes_le ((0#8 % 8#8).toNat)
 refine enter (n := 71) Try.func16 rfl rfl rfl ?_
 have hk : Below w0.heap.size w0 w0 := Below.refl _ _
 refine sr ?_
 refine w_box (m := 4) (F := fun j => if j < 1 then .string (str key) else if j < 2 then .string (str nonce) else if j < 3 then .string (str ad) else .int .i64 size) ea rfl ?_
 intro b_b w1 hbe_b_b r_b_b hb2
 have ge_b_b : w0.heap.size ≤ b_b := by have := hk.size; omega
 clear hbe_b_b
 replace hk := thenB hk hb2
 refine w_as Ev.c ?_
 refine nt ?_
 refine wp_seq ?_
 refine sr ?_
 refine w_call (Try.func43) (by kernel_rfl) rfl m0 (ccmWakes_c  w1) ?_
 rintro _ w3 ⟨rfl, hb4⟩
 refine ⟨_, rfl, ?_⟩
 replace r_b_b := r_b_b.step hb4
 replace hk := thenB hk hb4
 refine w_val (y_not eb) ?_
 refine nt ?_
 refine c_ff eb ?_
 refine wp_skip ?_
 refine then_n ?_
 refine sr ?_
 refine w_val (v := .agg (arr 8 (fun j => .int .i64 (((Cm.sizes (j)) : Nat) : Int)))) (y_build (vs := #[(0, .int .i64 0), (1, .int .i64 65279), (2, .int .i64 65280), (3, .int .i64 65281), (4, .int .i64 65535), (5, .int .i64 65536), (6, .int .i64 70000), (7, .int .i64 70001)]) (mp_cons Ev.c (mp_cons Ev.c (mp_cons Ev.c (mp_cons Ev.c (mp_cons Ev.c (mp_cons Ev.c (mp_cons Ev.c (mp_cons Ev.c mp0)))))))) (fun w => by kernel_rfl)) ?_
 refine w_alloc (m := 8) (F := fun j => .int .i64 0) (by kernel_rfl) ?_
 intro b_sizes w5 hbe_b_sizes r_b_sizes hb6
 have ne_b_b_b_sizes : b_b ≠ b_sizes := by have := r_b_b.lt; omega
 have ge_b_sizes : w0.heap.size ≤ b_sizes := by have := hk.size; omega
 clear hbe_b_sizes
 replace r_b_b := r_b_b.step hb6
 replace hk := thenB hk hb6
 refine w_sta (k := 8) (G := fun j => .int .i64 (((Cm.sizes (j)) : Nat) : Int)) (ex (pt b_sizes 0)) ea oc CcmLawGT.sz53 r_b_sizes (by omega) ?_
 clear r_b_sizes; intro w7 r_b_sizes hg8 _
 replace r_b_sizes := r_b_sizes.congr (g := fun j => .int .i64 (((Cm.sizes (j)) : Nat) : Int)) (fun j hj => by rw [if_pos ⟨Nat.zero_le _, by omega⟩]; first | rfl | (simp only [Nat.sub_zero]))
 replace r_b_b := r_b_b.stepG hg8 (by omega)
 replace hk := thenG hk hg8 (by omega)
 refine nt ?_
 refine wp_seq ?_
 refine sr ?_
 refine w_mv e8 ?_
 refine w_val (y_bin e8 (evc (U8 (8#8))) (rem8 (by decide))) ?_
 refine w_val (y_bin e8 (evc (U8 (0#8))) gtr8) ?_
 refine w_mv eb ?_
 have hc9 : (0#8).toNat < (av % (8#8)).toNat := by exact hx.1
 refine w_val_g (v := U8 tv) (wy rfl rfl (eb (dt hc9))) (y_mv e8) ?_
 refine w_val_g (wy rfl rfl (eb (dt hc9))) (y_bin e8 (evc (U8 (8#8))) (rem8 (by decide))) ?_
 refine w_val_g (wy rfl rfl (eb (dt hc9))) (y_bin e8 (evc (U8 (0#8))) gtr8) ?_
 refine w_val (y_pick_t (eb (dt hc9)) eb) ?_
 refine nt ?_
 have hc10 : (0#8).toNat < (tv % (8#8)).toNat := by exact hx.2
 refine c_t (p := (0#8).toNat < (tv % (8#8)).toNat) eb hc10 ?_
 refine wp_region_lit ?_
 refine w_as (evc (U8 (0#8))) ?_
 refine nt ?_
 refine sr ?_
 refine w_mv e8 ?_
 refine w_val (y_bin e8 (evc (U8 (8#8))) (rem8 (by decide))) ?_
 refine w_val (y_ia1z (i := ((av % (8#8)).toNat)) (ex (pt b_sizes 0)) (ex (.int .u8 ((av % (8#8)).toNat : Int))) Try.underlying53 CcmLawGT.sz3 rfl (by omega)) ?_
 refine w_val (v := .int .i64 (((Cm.sizes ((av % (8#8)).toNat)) : Nat) : Int)) (y_ld (ex (pt b_sizes ((av % (8#8)).toNat))) CcmLawGT.sc3 (r_b_sizes.val (by omega) rfl)) ?_
 refine w_mks (m := (Cm.sizes ((av % (8#8)).toNat))) (bytes := 1) (zv := U8 (0#8)) ei ei (by omega) (by omega) Try.underlying54 (by kernel_rfl) rfl (by omega) (by omega) ?_
 intro b_28 w11 hbe_b_28 r_b_28 hb12
 have ne_b_b_b_28 : b_b ≠ b_28 := by have := r_b_b.lt; omega
 have ne_b_sizes_b_28 : b_sizes ≠ b_28 := by have := r_b_sizes.lt; omega
 have ge_b_28 : w0.heap.size ≤ b_28 := by have := hk.size; omega
 clear hbe_b_28
 replace r_b_b := r_b_b.step hb12
 replace r_b_sizes := r_b_sizes.step hb12
 replace hk := thenB hk hb12
 refine w_val (y_str (l := Cm.gz av) el (by exact List.length_replicate) Try.underlying54 Try.underlying5 Try.underlying9 (fun j hj => (r_b_28.val (by omega) (by exact congrArg U8 (gb_rep _ _).symm)))) ?_
 refine w_val (v := pt b_b 2) (y_off (y_fa (ex (pt b_b 0)) (CcmLawGT.fa49_2 _ _)) (by first | rfl | omega)) ?_
 refine w_st (v := .string (str (Cm.gz av))) (ex (pt b_b 2)) es rfl rfl CcmLawGT.sz9 r_b_b (by omega) ?_
 clear r_b_b; intro w13 r_b_b hg14 _
 replace r_b_sizes := r_b_sizes.stepG hg14 (by omega)
 replace r_b_28 := r_b_28.stepG hg14 (by omega)
 replace hk := thenG hk hg14 (by omega)
 refine nt ?_
 refine sr ?_
 refine w_mv e8 ?_
 refine w_val (y_bin e8 (evc (U8 (8#8))) (rem8 (by decide))) ?_
 refine w_val (y_ia1z (i := (((0#8) % (8#8)).toNat)) (ex (pt b_sizes 0)) (ex (.int .u8 (((0#8) % (8#8)).toNat : Int))) Try.underlying53 CcmLawGT.sz3 rfl (by omega)) ?_
 refine w_val (v := .int .i64 (((Cm.sizes (((0#8) % (8#8)).toNat)) : Nat) : Int)) (y_ld (ex (pt b_sizes (((0#8) % (8#8)).toNat))) CcmLawGT.sc3 (r_b_sizes.val (by omega) rfl)) ?_
 refine w_mks (m := (Cm.sizes (((0#8) % (8#8)).toNat))) (bytes := 1) (zv := U8 (0#8)) ei ei (by omega) (by omega) Try.underlying54 (by kernel_rfl) rfl (by omega) (by omega) ?_
 intro b_35 w15 hbe_b_35 r_b_35 hb16
 have ne_b_b_b_35 : b_b ≠ b_35 := by have := r_b_b.lt; omega
 have ne_b_sizes_b_35 : b_sizes ≠ b_35 := by have := r_b_sizes.lt; omega
 have ne_b_28_b_35 : b_28 ≠ b_35 := by have := r_b_28.lt; omega
 have ge_b_35 : w0.heap.size ≤ b_35 := by have := hk.size; omega
 clear hbe_b_35
 replace r_b_b := r_b_b.step hb16
 replace r_b_sizes := r_b_sizes.step hb16
 replace r_b_28 := r_b_28.step hb16
 replace hk := thenB hk hb16
 refine w_val (y_str (l := Cm.gz 0#8) el (by exact List.length_replicate) Try.underlying54 Try.underlying5 Try.underlying9 (fun j hj => (r_b_35.val (by omega) (by exact congrArg U8 (gb_rep _ _).symm)))) ?_
 refine w_as es ?_
 refine nt ?_
 refine sr ?_
 refine w_val (v := pt b_b 0) (y_off (y_fa (ex (pt b_b 0)) (CcmLawGT.fa49_0 _ _)) (by first | rfl | omega)) ?_
 refine w_val (v := .string (str key)) (y_ld (ex (pt b_b 0)) CcmLawGT.sc9 (r_b_b.val (by omega) ((if_neg (by omega)).trans (etv (if_pos (by omega)))))) ?_
 refine w_val (v := pt b_b 1) (y_off (y_fa (ex (pt b_b 0)) (CcmLawGT.fa49_1 _ _)) (by first | rfl | omega)) ?_
 refine w_val (v := .string (str nonce)) (y_ld (ex (pt b_b 1)) CcmLawGT.sc9 (r_b_b.val (by omega) ((if_neg (by omega)).trans ((if_neg (by omega)).trans (etv (if_pos (by omega))))))) ?_
 refine w_val (v := pt b_b 2) (y_off (y_fa (ex (pt b_b 0)) (CcmLawGT.fa49_2 _ _)) (by first | rfl | omega)) ?_
 refine w_val (v := .string (str (Cm.gz av))) (y_ld (ex (pt b_b 2)) CcmLawGT.sc9 (r_b_b.val (by omega) (if_pos rfl))) ?_
 refine w_mv es ?_
 refine w_val (v := pt b_b 3) (y_off (y_fa (ex (pt b_b 0)) (CcmLawGT.fa49_3 _ _)) (by first | rfl | omega)) ?_
 refine w_val (v := .int .i64 size) (y_ld (ex (pt b_b 3)) CcmLawGT.sc3 (r_b_b.val (by omega) ((if_neg (by omega)).trans ((if_neg (by omega)).trans ((if_neg (by omega)).trans ((if_neg (by omega)).trans (by first | with_reducible rfl | (with_reducible congr 1 <;> omega) | (with_reducible congr 2 <;> omega) | (with_reducible congr 3 <;> omega) | rfl))))))) ?_
 refine w_call (Try.func45) (by kernel_rfl) rfl (m5 es es es es ei) (cmSeal_k key nonce (Cm.gz av) size hok (Cm.gz 0#8) w15) ?_
 rintro _ w17 ⟨rfl, hb18⟩
 refine ⟨_, rfl, ?_⟩
 replace r_b_b := r_b_b.step hb18
 replace r_b_sizes := r_b_sizes.step hb18
 replace r_b_28 := r_b_28.step hb18
 replace r_b_35 := r_b_35.step hb18
 replace hk := thenB hk hb18
 refine w_mv (ex (.tuple #[.string (str ([] : List (BitVec 8))), .int .i64 3])) ?_
 refine w_val ye ?_
 refine w_val ye ?_
 refine w_as es ?_
 refine w_as ei ?_
 refine nt ?_
 refine sr ?_
 refine w_val (v := pt b_b 0) (y_off (y_fa (ex (pt b_b 0)) (CcmLawGT.fa49_0 _ _)) (by first | rfl | omega)) ?_
 refine w_val (v := .string (str key)) (y_ld (ex (pt b_b 0)) CcmLawGT.sc9 (r_b_b.val (by omega) ((if_neg (by omega)).trans (etv (if_pos (by omega)))))) ?_
 refine w_val (v := pt b_b 1) (y_off (y_fa (ex (pt b_b 0)) (CcmLawGT.fa49_1 _ _)) (by first | rfl | omega)) ?_
 refine w_val (v := .string (str nonce)) (y_ld (ex (pt b_b 1)) CcmLawGT.sc9 (r_b_b.val (by omega) ((if_neg (by omega)).trans ((if_neg (by omega)).trans (etv (if_pos (by omega))))))) ?_
 refine w_val (v := pt b_b 2) (y_off (y_fa (ex (pt b_b 0)) (CcmLawGT.fa49_2 _ _)) (by first | rfl | omega)) ?_
 refine w_val (v := .string (str (Cm.gz av))) (y_ld (ex (pt b_b 2)) CcmLawGT.sc9 (r_b_b.val (by omega) (if_pos rfl))) ?_
 refine w_mv es ?_
 refine w_val (v := pt b_b 3) (y_off (y_fa (ex (pt b_b 0)) (CcmLawGT.fa49_3 _ _)) (by first | rfl | omega)) ?_
 refine w_val (v := .int .i64 size) (y_ld (ex (pt b_b 3)) CcmLawGT.sc3 (r_b_b.val (by omega) ((if_neg (by omega)).trans ((if_neg (by omega)).trans ((if_neg (by omega)).trans ((if_neg (by omega)).trans (by first | with_reducible rfl | (with_reducible congr 1 <;> omega) | (with_reducible congr 2 <;> omega) | (with_reducible congr 3 <;> omega) | rfl))))))) ?_
 refine w_call (Try.func46) (by kernel_rfl) rfl (m5 es es es es ei) (cmRefSeal_k key nonce (Cm.gz av) size hok (Cm.gz 0#8) w17) ?_
 rintro _ w19 ⟨rfl, hb20⟩
 refine ⟨_, rfl, ?_⟩
 replace r_b_b := r_b_b.step hb20
 replace r_b_sizes := r_b_sizes.step hb20
 replace r_b_28 := r_b_28.step hb20
 replace r_b_35 := r_b_35.step hb20
 replace hk := thenB hk hb20
 refine w_mv (ex (.tuple #[.string (str ([] : List (BitVec 8))), .int .i64 3])) ?_
 refine w_val ye ?_
 refine w_val ye ?_
 refine w_as es ?_
 refine w_as ei ?_
 refine nt ?_
 refine sr ?_
 refine w_mv es ?_
 refine w_mv es ?_
 refine w_val (y_bin es es b_eqs_same) ?_
 refine w_mv eb ?_
 refine w_val_g (v := .int .i64 3) (wy rfl rfl eb) (y_mv ei) ?_
 refine w_val_g (v := .int .i64 3) (wy rfl rfl eb) (y_mv ei) ?_
 refine w_val_g (wy rfl rfl eb) (y_bin ei ei b_eql) ?_
 refine w_val (y_pick_t eb eb) ?_
 refine w_as eb ?_
 refine nt ?_
 refine wp_ret ?_
 refine fin_ret1 rfl eb ?_
 exact ⟨rfl, hk⟩

theorem ccmGreatX_n (key nonce ad : List (BitVec 8)) (av tv : BitVec 8) (hx : (0#8).toNat < (av % 8#8).toNat ∧ (0#8).toNat < (tv % 8#8).toNat) (size : Int) (hok : Aes.okKey key.length) (hn : ¬ (7 ≤ nonce.length ∧ nonce.length ≤ 13)) (w0 : World) : Calls Try.prog 16 #[.agg (arr 4 (fun j => if j < 1 then .string (str key) else if j < 2 then .string (str nonce) else if j < 3 then .string (str ad) else .int .i64 size)), U8 av, U8 tv] w0 fun e w' => e = .returned (.bool true) ∧ Below w0.heap.size w0 w' := by
 have hm8 : ∀ x : BitVec 8, (x % 8#8).toNat < 8 := fun x => by rw [BitVec.toNat_umod]; exact Nat.mod_lt _ (by decide)
 have h8a := hm8 av
 have h8t := hm8 tv
 have h80 := hm8 0#8
 have hsa := Cm.sizes_le ((av % 8#8).toNat)
 have hst := Cm.sizes_le ((0#8 % 8#8).toNat)
 refine enter (n := 71) Try.func16 rfl rfl rfl ?_
 have hk : Below w0.heap.size w0 w0 := Below.refl _ _
 refine sr ?_
 refine w_box (m := 4) (F := fun j => if j < 1 then .string (str key) else if j < 2 then .string (str nonce) else if j < 3 then .string (str ad) else .int .i64 size) ea rfl ?_
 intro b_b w1 hbe_b_b r_b_b hb2
 have ge_b_b : w0.heap.size ≤ b_b := by have := hk.size; omega
 clear hbe_b_b
 replace hk := thenB hk hb2
 refine w_as Ev.c ?_
 refine nt ?_
 refine wp_seq ?_
 refine sr ?_
 refine w_call (Try.func43) (by kernel_rfl) rfl m0 (ccmWakes_c  w1) ?_
 rintro _ w3 ⟨rfl, hb4⟩
 refine ⟨_, rfl, ?_⟩
 replace r_b_b := r_b_b.step hb4
 replace hk := thenB hk hb4
 refine w_val (y_not eb) ?_
 refine nt ?_
 refine c_ff eb ?_
 refine wp_skip ?_
 refine then_n ?_
 refine sr ?_
 refine w_val (v := .agg (arr 8 (fun j => .int .i64 (((Cm.sizes (j)) : Nat) : Int)))) (y_build (vs := #[(0, .int .i64 0), (1, .int .i64 65279), (2, .int .i64 65280), (3, .int .i64 65281), (4, .int .i64 65535), (5, .int .i64 65536), (6, .int .i64 70000), (7, .int .i64 70001)]) (mp_cons Ev.c (mp_cons Ev.c (mp_cons Ev.c (mp_cons Ev.c (mp_cons Ev.c (mp_cons Ev.c (mp_cons Ev.c (mp_cons Ev.c mp0)))))))) (fun w => by kernel_rfl)) ?_
 refine w_alloc (m := 8) (F := fun j => .int .i64 0) (by kernel_rfl) ?_
 intro b_sizes w5 hbe_b_sizes r_b_sizes hb6
 have ne_b_b_b_sizes : b_b ≠ b_sizes := by have := r_b_b.lt; omega
 have ge_b_sizes : w0.heap.size ≤ b_sizes := by have := hk.size; omega
 clear hbe_b_sizes
 replace r_b_b := r_b_b.step hb6
 replace hk := thenB hk hb6
 refine w_sta (k := 8) (G := fun j => .int .i64 (((Cm.sizes (j)) : Nat) : Int)) (ex (pt b_sizes 0)) ea oc CcmLawGT.sz53 r_b_sizes (by omega) ?_
 clear r_b_sizes; intro w7 r_b_sizes hg8 _
 replace r_b_sizes := r_b_sizes.congr (g := fun j => .int .i64 (((Cm.sizes (j)) : Nat) : Int)) (fun j hj => by rw [if_pos ⟨Nat.zero_le _, by omega⟩]; first | rfl | (simp only [Nat.sub_zero]))
 replace r_b_b := r_b_b.stepG hg8 (by omega)
 replace hk := thenG hk hg8 (by omega)
 refine nt ?_
 refine wp_seq ?_
 refine sr ?_
 refine w_mv e8 ?_
 refine w_val (y_bin e8 (evc (U8 (8#8))) (rem8 (by decide))) ?_
 refine w_val (y_bin e8 (evc (U8 (0#8))) gtr8) ?_
 refine w_mv eb ?_
 have hc9 : (0#8).toNat < (av % (8#8)).toNat := by exact hx.1
 refine w_val_g (v := U8 tv) (wy rfl rfl (eb (dt hc9))) (y_mv e8) ?_
 refine w_val_g (wy rfl rfl (eb (dt hc9))) (y_bin e8 (evc (U8 (8#8))) (rem8 (by decide))) ?_
 refine w_val_g (wy rfl rfl (eb (dt hc9))) (y_bin e8 (evc (U8 (0#8))) gtr8) ?_
 refine w_val (y_pick_t (eb (dt hc9)) eb) ?_
 refine nt ?_
 have hc10 : (0#8).toNat < (tv % (8#8)).toNat := by exact hx.2
 refine c_t (p := (0#8).toNat < (tv % (8#8)).toNat) eb hc10 ?_
 refine wp_region_lit ?_
 refine w_as (evc (U8 (0#8))) ?_
 refine nt ?_
 refine sr ?_
 refine w_mv e8 ?_
 refine w_val (y_bin e8 (evc (U8 (8#8))) (rem8 (by decide))) ?_
 refine w_val (y_ia1z (i := ((av % (8#8)).toNat)) (ex (pt b_sizes 0)) (ex (.int .u8 ((av % (8#8)).toNat : Int))) Try.underlying53 CcmLawGT.sz3 rfl (by omega)) ?_
 refine w_val (v := .int .i64 (((Cm.sizes ((av % (8#8)).toNat)) : Nat) : Int)) (y_ld (ex (pt b_sizes ((av % (8#8)).toNat))) CcmLawGT.sc3 (r_b_sizes.val (by omega) rfl)) ?_
 refine w_mks (m := (Cm.sizes ((av % (8#8)).toNat))) (bytes := 1) (zv := U8 (0#8)) ei ei (by omega) (by omega) Try.underlying54 (by kernel_rfl) rfl (by omega) (by omega) ?_
 intro b_28 w11 hbe_b_28 r_b_28 hb12
 have ne_b_b_b_28 : b_b ≠ b_28 := by have := r_b_b.lt; omega
 have ne_b_sizes_b_28 : b_sizes ≠ b_28 := by have := r_b_sizes.lt; omega
 have ge_b_28 : w0.heap.size ≤ b_28 := by have := hk.size; omega
 clear hbe_b_28
 replace r_b_b := r_b_b.step hb12
 replace r_b_sizes := r_b_sizes.step hb12
 replace hk := thenB hk hb12
 refine w_val (y_str (l := Cm.gz av) el (by exact List.length_replicate) Try.underlying54 Try.underlying5 Try.underlying9 (fun j hj => (r_b_28.val (by omega) (by exact congrArg U8 (gb_rep _ _).symm)))) ?_
 refine w_val (v := pt b_b 2) (y_off (y_fa (ex (pt b_b 0)) (CcmLawGT.fa49_2 _ _)) (by first | rfl | omega)) ?_
 refine w_st (v := .string (str (Cm.gz av))) (ex (pt b_b 2)) es rfl rfl CcmLawGT.sz9 r_b_b (by omega) ?_
 clear r_b_b; intro w13 r_b_b hg14 _
 replace r_b_sizes := r_b_sizes.stepG hg14 (by omega)
 replace r_b_28 := r_b_28.stepG hg14 (by omega)
 replace hk := thenG hk hg14 (by omega)
 refine nt ?_
 refine sr ?_
 refine w_mv e8 ?_
 refine w_val (y_bin e8 (evc (U8 (8#8))) (rem8 (by decide))) ?_
 refine w_val (y_ia1z (i := (((0#8) % (8#8)).toNat)) (ex (pt b_sizes 0)) (ex (.int .u8 (((0#8) % (8#8)).toNat : Int))) Try.underlying53 CcmLawGT.sz3 rfl (by omega)) ?_
 refine w_val (v := .int .i64 (((Cm.sizes (((0#8) % (8#8)).toNat)) : Nat) : Int)) (y_ld (ex (pt b_sizes (((0#8) % (8#8)).toNat))) CcmLawGT.sc3 (r_b_sizes.val (by omega) rfl)) ?_
 refine w_mks (m := (Cm.sizes (((0#8) % (8#8)).toNat))) (bytes := 1) (zv := U8 (0#8)) ei ei (by omega) (by omega) Try.underlying54 (by kernel_rfl) rfl (by omega) (by omega) ?_
 intro b_35 w15 hbe_b_35 r_b_35 hb16
 have ne_b_b_b_35 : b_b ≠ b_35 := by have := r_b_b.lt; omega
 have ne_b_sizes_b_35 : b_sizes ≠ b_35 := by have := r_b_sizes.lt; omega
 have ne_b_28_b_35 : b_28 ≠ b_35 := by have := r_b_28.lt; omega
 have ge_b_35 : w0.heap.size ≤ b_35 := by have := hk.size; omega
 clear hbe_b_35
 replace r_b_b := r_b_b.step hb16
 replace r_b_sizes := r_b_sizes.step hb16
 replace r_b_28 := r_b_28.step hb16
 replace hk := thenB hk hb16
 refine w_val (y_str (l := Cm.gz 0#8) el (by exact List.length_replicate) Try.underlying54 Try.underlying5 Try.underlying9 (fun j hj => (r_b_35.val (by omega) (by exact congrArg U8 (gb_rep _ _).symm)))) ?_
 refine w_as es ?_
 refine nt ?_
 refine sr ?_
 refine w_val (v := pt b_b 0) (y_off (y_fa (ex (pt b_b 0)) (CcmLawGT.fa49_0 _ _)) (by first | rfl | omega)) ?_
 refine w_val (v := .string (str key)) (y_ld (ex (pt b_b 0)) CcmLawGT.sc9 (r_b_b.val (by omega) ((if_neg (by omega)).trans (etv (if_pos (by omega)))))) ?_
 refine w_val (v := pt b_b 1) (y_off (y_fa (ex (pt b_b 0)) (CcmLawGT.fa49_1 _ _)) (by first | rfl | omega)) ?_
 refine w_val (v := .string (str nonce)) (y_ld (ex (pt b_b 1)) CcmLawGT.sc9 (r_b_b.val (by omega) ((if_neg (by omega)).trans ((if_neg (by omega)).trans (etv (if_pos (by omega))))))) ?_
 refine w_val (v := pt b_b 2) (y_off (y_fa (ex (pt b_b 0)) (CcmLawGT.fa49_2 _ _)) (by first | rfl | omega)) ?_
 refine w_val (v := .string (str (Cm.gz av))) (y_ld (ex (pt b_b 2)) CcmLawGT.sc9 (r_b_b.val (by omega) (if_pos rfl))) ?_
 refine w_mv es ?_
 refine w_val (v := pt b_b 3) (y_off (y_fa (ex (pt b_b 0)) (CcmLawGT.fa49_3 _ _)) (by first | rfl | omega)) ?_
 refine w_val (v := .int .i64 size) (y_ld (ex (pt b_b 3)) CcmLawGT.sc3 (r_b_b.val (by omega) ((if_neg (by omega)).trans ((if_neg (by omega)).trans ((if_neg (by omega)).trans ((if_neg (by omega)).trans (by first | with_reducible rfl | (with_reducible congr 1 <;> omega) | (with_reducible congr 2 <;> omega) | (with_reducible congr 3 <;> omega) | rfl))))))) ?_
 refine w_call (Try.func45) (by kernel_rfl) rfl (m5 es es es es ei) (cmSeal_n key nonce (Cm.gz av) size hok hn (Cm.gz 0#8) w15) ?_
 rintro _ w17 ⟨rfl, hb18⟩
 refine ⟨_, rfl, ?_⟩
 replace r_b_b := r_b_b.step hb18
 replace r_b_sizes := r_b_sizes.step hb18
 replace r_b_28 := r_b_28.step hb18
 replace r_b_35 := r_b_35.step hb18
 replace hk := thenB hk hb18
 refine w_mv (ex (.tuple #[.string (str ([] : List (BitVec 8))), .int .i64 4])) ?_
 refine w_val ye ?_
 refine w_val ye ?_
 refine w_as es ?_
 refine w_as ei ?_
 refine nt ?_
 refine sr ?_
 refine w_val (v := pt b_b 0) (y_off (y_fa (ex (pt b_b 0)) (CcmLawGT.fa49_0 _ _)) (by first | rfl | omega)) ?_
 refine w_val (v := .string (str key)) (y_ld (ex (pt b_b 0)) CcmLawGT.sc9 (r_b_b.val (by omega) ((if_neg (by omega)).trans (etv (if_pos (by omega)))))) ?_
 refine w_val (v := pt b_b 1) (y_off (y_fa (ex (pt b_b 0)) (CcmLawGT.fa49_1 _ _)) (by first | rfl | omega)) ?_
 refine w_val (v := .string (str nonce)) (y_ld (ex (pt b_b 1)) CcmLawGT.sc9 (r_b_b.val (by omega) ((if_neg (by omega)).trans ((if_neg (by omega)).trans (etv (if_pos (by omega))))))) ?_
 refine w_val (v := pt b_b 2) (y_off (y_fa (ex (pt b_b 0)) (CcmLawGT.fa49_2 _ _)) (by first | rfl | omega)) ?_
 refine w_val (v := .string (str (Cm.gz av))) (y_ld (ex (pt b_b 2)) CcmLawGT.sc9 (r_b_b.val (by omega) (if_pos rfl))) ?_
 refine w_mv es ?_
 refine w_val (v := pt b_b 3) (y_off (y_fa (ex (pt b_b 0)) (CcmLawGT.fa49_3 _ _)) (by first | rfl | omega)) ?_
 refine w_val (v := .int .i64 size) (y_ld (ex (pt b_b 3)) CcmLawGT.sc3 (r_b_b.val (by omega) ((if_neg (by omega)).trans ((if_neg (by omega)).trans ((if_neg (by omega)).trans ((if_neg (by omega)).trans (by first | with_reducible rfl | (with_reducible congr 1 <;> omega) | (with_reducible congr 2 <;> omega) | (with_reducible congr 3 <;> omega) | rfl))))))) ?_
 refine w_call (Try.func46) (by kernel_rfl) rfl (m5 es es es es ei) (cmRefSeal_n key nonce (Cm.gz av) size hok hn (Cm.gz 0#8) w17) ?_
 rintro _ w19 ⟨rfl, hb20⟩
 refine ⟨_, rfl, ?_⟩
 replace r_b_b := r_b_b.step hb20
 replace r_b_sizes := r_b_sizes.step hb20
 replace r_b_28 := r_b_28.step hb20
 replace r_b_35 := r_b_35.step hb20
 replace hk := thenB hk hb20
 refine w_mv (ex (.tuple #[.string (str ([] : List (BitVec 8))), .int .i64 4])) ?_
 refine w_val ye ?_
 refine w_val ye ?_
 refine w_as es ?_
 refine w_as ei ?_
 refine nt ?_
 refine sr ?_
 refine w_mv es ?_
 refine w_mv es ?_
 refine w_val (y_bin es es b_eqs_same) ?_
 refine w_mv eb ?_
 refine w_val_g (v := .int .i64 4) (wy rfl rfl eb) (y_mv ei) ?_
 refine w_val_g (v := .int .i64 4) (wy rfl rfl eb) (y_mv ei) ?_
 refine w_val_g (wy rfl rfl eb) (y_bin ei ei b_eql) ?_
 refine w_val (y_pick_t eb eb) ?_
 refine w_as eb ?_
 refine nt ?_
 refine wp_ret ?_
 refine fin_ret1 rfl eb ?_
 exact ⟨rfl, hk⟩

theorem ccmGreatX_t (key nonce ad : List (BitVec 8)) (av tv : BitVec 8) (hx : (0#8).toNat < (av % 8#8).toNat ∧ (0#8).toNat < (tv % 8#8).toNat) (size : Int) (hok : Aes.okKey key.length) (hn : 7 ≤ nonce.length ∧ nonce.length ≤ 13) (ht : ¬ (4 ≤ size ∧ size ≤ 16 ∧ size % 2 = 0)) (w0 : World) : Calls Try.prog 16 #[.agg (arr 4 (fun j => if j < 1 then .string (str key) else if j < 2 then .string (str nonce) else if j < 3 then .string (str ad) else .int .i64 size)), U8 av, U8 tv] w0 fun e w' => e = .returned (.bool true) ∧ Below w0.heap.size w0 w' := by
 have hm8 : ∀ x : BitVec 8, (x % 8#8).toNat < 8 := fun x => by rw [BitVec.toNat_umod]; exact Nat.mod_lt _ (by decide)
 have h8a := hm8 av
 have h8t := hm8 tv
 have h80 := hm8 0#8
 have hsa := Cm.sizes_le ((av % 8#8).toNat)
 have hst := Cm.sizes_le ((0#8 % 8#8).toNat)
 refine enter (n := 71) Try.func16 rfl rfl rfl ?_
 have hk : Below w0.heap.size w0 w0 := Below.refl _ _
 refine sr ?_
 refine w_box (m := 4) (F := fun j => if j < 1 then .string (str key) else if j < 2 then .string (str nonce) else if j < 3 then .string (str ad) else .int .i64 size) ea rfl ?_
 intro b_b w1 hbe_b_b r_b_b hb2
 have ge_b_b : w0.heap.size ≤ b_b := by have := hk.size; omega
 clear hbe_b_b
 replace hk := thenB hk hb2
 refine w_as Ev.c ?_
 refine nt ?_
 refine wp_seq ?_
 refine sr ?_
 refine w_call (Try.func43) (by kernel_rfl) rfl m0 (ccmWakes_c  w1) ?_
 rintro _ w3 ⟨rfl, hb4⟩
 refine ⟨_, rfl, ?_⟩
 replace r_b_b := r_b_b.step hb4
 replace hk := thenB hk hb4
 refine w_val (y_not eb) ?_
 refine nt ?_
 refine c_ff eb ?_
 refine wp_skip ?_
 refine then_n ?_
 refine sr ?_
 refine w_val (v := .agg (arr 8 (fun j => .int .i64 (((Cm.sizes (j)) : Nat) : Int)))) (y_build (vs := #[(0, .int .i64 0), (1, .int .i64 65279), (2, .int .i64 65280), (3, .int .i64 65281), (4, .int .i64 65535), (5, .int .i64 65536), (6, .int .i64 70000), (7, .int .i64 70001)]) (mp_cons Ev.c (mp_cons Ev.c (mp_cons Ev.c (mp_cons Ev.c (mp_cons Ev.c (mp_cons Ev.c (mp_cons Ev.c (mp_cons Ev.c mp0)))))))) (fun w => by kernel_rfl)) ?_
 refine w_alloc (m := 8) (F := fun j => .int .i64 0) (by kernel_rfl) ?_
 intro b_sizes w5 hbe_b_sizes r_b_sizes hb6
 have ne_b_b_b_sizes : b_b ≠ b_sizes := by have := r_b_b.lt; omega
 have ge_b_sizes : w0.heap.size ≤ b_sizes := by have := hk.size; omega
 clear hbe_b_sizes
 replace r_b_b := r_b_b.step hb6
 replace hk := thenB hk hb6
 refine w_sta (k := 8) (G := fun j => .int .i64 (((Cm.sizes (j)) : Nat) : Int)) (ex (pt b_sizes 0)) ea oc CcmLawGT.sz53 r_b_sizes (by omega) ?_
 clear r_b_sizes; intro w7 r_b_sizes hg8 _
 replace r_b_sizes := r_b_sizes.congr (g := fun j => .int .i64 (((Cm.sizes (j)) : Nat) : Int)) (fun j hj => by rw [if_pos ⟨Nat.zero_le _, by omega⟩]; first | rfl | (simp only [Nat.sub_zero]))
 replace r_b_b := r_b_b.stepG hg8 (by omega)
 replace hk := thenG hk hg8 (by omega)
 refine nt ?_
 refine wp_seq ?_
 refine sr ?_
 refine w_mv e8 ?_
 refine w_val (y_bin e8 (evc (U8 (8#8))) (rem8 (by decide))) ?_
 refine w_val (y_bin e8 (evc (U8 (0#8))) gtr8) ?_
 refine w_mv eb ?_
 have hc9 : (0#8).toNat < (av % (8#8)).toNat := by exact hx.1
 refine w_val_g (v := U8 tv) (wy rfl rfl (eb (dt hc9))) (y_mv e8) ?_
 refine w_val_g (wy rfl rfl (eb (dt hc9))) (y_bin e8 (evc (U8 (8#8))) (rem8 (by decide))) ?_
 refine w_val_g (wy rfl rfl (eb (dt hc9))) (y_bin e8 (evc (U8 (0#8))) gtr8) ?_
 refine w_val (y_pick_t (eb (dt hc9)) eb) ?_
 refine nt ?_
 have hc10 : (0#8).toNat < (tv % (8#8)).toNat := by exact hx.2
 refine c_t (p := (0#8).toNat < (tv % (8#8)).toNat) eb hc10 ?_
 refine wp_region_lit ?_
 refine w_as (evc (U8 (0#8))) ?_
 refine nt ?_
 refine sr ?_
 refine w_mv e8 ?_
 refine w_val (y_bin e8 (evc (U8 (8#8))) (rem8 (by decide))) ?_
 refine w_val (y_ia1z (i := ((av % (8#8)).toNat)) (ex (pt b_sizes 0)) (ex (.int .u8 ((av % (8#8)).toNat : Int))) Try.underlying53 CcmLawGT.sz3 rfl (by omega)) ?_
 refine w_val (v := .int .i64 (((Cm.sizes ((av % (8#8)).toNat)) : Nat) : Int)) (y_ld (ex (pt b_sizes ((av % (8#8)).toNat))) CcmLawGT.sc3 (r_b_sizes.val (by omega) rfl)) ?_
 refine w_mks (m := (Cm.sizes ((av % (8#8)).toNat))) (bytes := 1) (zv := U8 (0#8)) ei ei (by omega) (by omega) Try.underlying54 (by kernel_rfl) rfl (by omega) (by omega) ?_
 intro b_28 w11 hbe_b_28 r_b_28 hb12
 have ne_b_b_b_28 : b_b ≠ b_28 := by have := r_b_b.lt; omega
 have ne_b_sizes_b_28 : b_sizes ≠ b_28 := by have := r_b_sizes.lt; omega
 have ge_b_28 : w0.heap.size ≤ b_28 := by have := hk.size; omega
 clear hbe_b_28
 replace r_b_b := r_b_b.step hb12
 replace r_b_sizes := r_b_sizes.step hb12
 replace hk := thenB hk hb12
 refine w_val (y_str (l := Cm.gz av) el (by exact List.length_replicate) Try.underlying54 Try.underlying5 Try.underlying9 (fun j hj => (r_b_28.val (by omega) (by exact congrArg U8 (gb_rep _ _).symm)))) ?_
 refine w_val (v := pt b_b 2) (y_off (y_fa (ex (pt b_b 0)) (CcmLawGT.fa49_2 _ _)) (by first | rfl | omega)) ?_
 refine w_st (v := .string (str (Cm.gz av))) (ex (pt b_b 2)) es rfl rfl CcmLawGT.sz9 r_b_b (by omega) ?_
 clear r_b_b; intro w13 r_b_b hg14 _
 replace r_b_sizes := r_b_sizes.stepG hg14 (by omega)
 replace r_b_28 := r_b_28.stepG hg14 (by omega)
 replace hk := thenG hk hg14 (by omega)
 refine nt ?_
 refine sr ?_
 refine w_mv e8 ?_
 refine w_val (y_bin e8 (evc (U8 (8#8))) (rem8 (by decide))) ?_
 refine w_val (y_ia1z (i := (((0#8) % (8#8)).toNat)) (ex (pt b_sizes 0)) (ex (.int .u8 (((0#8) % (8#8)).toNat : Int))) Try.underlying53 CcmLawGT.sz3 rfl (by omega)) ?_
 refine w_val (v := .int .i64 (((Cm.sizes (((0#8) % (8#8)).toNat)) : Nat) : Int)) (y_ld (ex (pt b_sizes (((0#8) % (8#8)).toNat))) CcmLawGT.sc3 (r_b_sizes.val (by omega) rfl)) ?_
 refine w_mks (m := (Cm.sizes (((0#8) % (8#8)).toNat))) (bytes := 1) (zv := U8 (0#8)) ei ei (by omega) (by omega) Try.underlying54 (by kernel_rfl) rfl (by omega) (by omega) ?_
 intro b_35 w15 hbe_b_35 r_b_35 hb16
 have ne_b_b_b_35 : b_b ≠ b_35 := by have := r_b_b.lt; omega
 have ne_b_sizes_b_35 : b_sizes ≠ b_35 := by have := r_b_sizes.lt; omega
 have ne_b_28_b_35 : b_28 ≠ b_35 := by have := r_b_28.lt; omega
 have ge_b_35 : w0.heap.size ≤ b_35 := by have := hk.size; omega
 clear hbe_b_35
 replace r_b_b := r_b_b.step hb16
 replace r_b_sizes := r_b_sizes.step hb16
 replace r_b_28 := r_b_28.step hb16
 replace hk := thenB hk hb16
 refine w_val (y_str (l := Cm.gz 0#8) el (by exact List.length_replicate) Try.underlying54 Try.underlying5 Try.underlying9 (fun j hj => (r_b_35.val (by omega) (by exact congrArg U8 (gb_rep _ _).symm)))) ?_
 refine w_as es ?_
 refine nt ?_
 refine sr ?_
 refine w_val (v := pt b_b 0) (y_off (y_fa (ex (pt b_b 0)) (CcmLawGT.fa49_0 _ _)) (by first | rfl | omega)) ?_
 refine w_val (v := .string (str key)) (y_ld (ex (pt b_b 0)) CcmLawGT.sc9 (r_b_b.val (by omega) ((if_neg (by omega)).trans (etv (if_pos (by omega)))))) ?_
 refine w_val (v := pt b_b 1) (y_off (y_fa (ex (pt b_b 0)) (CcmLawGT.fa49_1 _ _)) (by first | rfl | omega)) ?_
 refine w_val (v := .string (str nonce)) (y_ld (ex (pt b_b 1)) CcmLawGT.sc9 (r_b_b.val (by omega) ((if_neg (by omega)).trans ((if_neg (by omega)).trans (etv (if_pos (by omega))))))) ?_
 refine w_val (v := pt b_b 2) (y_off (y_fa (ex (pt b_b 0)) (CcmLawGT.fa49_2 _ _)) (by first | rfl | omega)) ?_
 refine w_val (v := .string (str (Cm.gz av))) (y_ld (ex (pt b_b 2)) CcmLawGT.sc9 (r_b_b.val (by omega) (if_pos rfl))) ?_
 refine w_mv es ?_
 refine w_val (v := pt b_b 3) (y_off (y_fa (ex (pt b_b 0)) (CcmLawGT.fa49_3 _ _)) (by first | rfl | omega)) ?_
 refine w_val (v := .int .i64 size) (y_ld (ex (pt b_b 3)) CcmLawGT.sc3 (r_b_b.val (by omega) ((if_neg (by omega)).trans ((if_neg (by omega)).trans ((if_neg (by omega)).trans ((if_neg (by omega)).trans (by first | with_reducible rfl | (with_reducible congr 1 <;> omega) | (with_reducible congr 2 <;> omega) | (with_reducible congr 3 <;> omega) | rfl))))))) ?_
 refine w_call (Try.func45) (by kernel_rfl) rfl (m5 es es es es ei) (cmSeal_t key nonce (Cm.gz av) size hok hn ht (Cm.gz 0#8) w15) ?_
 rintro _ w17 ⟨rfl, hb18⟩
 refine ⟨_, rfl, ?_⟩
 replace r_b_b := r_b_b.step hb18
 replace r_b_sizes := r_b_sizes.step hb18
 replace r_b_28 := r_b_28.step hb18
 replace r_b_35 := r_b_35.step hb18
 replace hk := thenB hk hb18
 refine w_mv (ex (.tuple #[.string (str ([] : List (BitVec 8))), .int .i64 5])) ?_
 refine w_val ye ?_
 refine w_val ye ?_
 refine w_as es ?_
 refine w_as ei ?_
 refine nt ?_
 refine sr ?_
 refine w_val (v := pt b_b 0) (y_off (y_fa (ex (pt b_b 0)) (CcmLawGT.fa49_0 _ _)) (by first | rfl | omega)) ?_
 refine w_val (v := .string (str key)) (y_ld (ex (pt b_b 0)) CcmLawGT.sc9 (r_b_b.val (by omega) ((if_neg (by omega)).trans (etv (if_pos (by omega)))))) ?_
 refine w_val (v := pt b_b 1) (y_off (y_fa (ex (pt b_b 0)) (CcmLawGT.fa49_1 _ _)) (by first | rfl | omega)) ?_
 refine w_val (v := .string (str nonce)) (y_ld (ex (pt b_b 1)) CcmLawGT.sc9 (r_b_b.val (by omega) ((if_neg (by omega)).trans ((if_neg (by omega)).trans (etv (if_pos (by omega))))))) ?_
 refine w_val (v := pt b_b 2) (y_off (y_fa (ex (pt b_b 0)) (CcmLawGT.fa49_2 _ _)) (by first | rfl | omega)) ?_
 refine w_val (v := .string (str (Cm.gz av))) (y_ld (ex (pt b_b 2)) CcmLawGT.sc9 (r_b_b.val (by omega) (if_pos rfl))) ?_
 refine w_mv es ?_
 refine w_val (v := pt b_b 3) (y_off (y_fa (ex (pt b_b 0)) (CcmLawGT.fa49_3 _ _)) (by first | rfl | omega)) ?_
 refine w_val (v := .int .i64 size) (y_ld (ex (pt b_b 3)) CcmLawGT.sc3 (r_b_b.val (by omega) ((if_neg (by omega)).trans ((if_neg (by omega)).trans ((if_neg (by omega)).trans ((if_neg (by omega)).trans (by first | with_reducible rfl | (with_reducible congr 1 <;> omega) | (with_reducible congr 2 <;> omega) | (with_reducible congr 3 <;> omega) | rfl))))))) ?_
 refine w_call (Try.func46) (by kernel_rfl) rfl (m5 es es es es ei) (cmRefSeal_t key nonce (Cm.gz av) size hok hn ht (Cm.gz 0#8) w17) ?_
 rintro _ w19 ⟨rfl, hb20⟩
 refine ⟨_, rfl, ?_⟩
 replace r_b_b := r_b_b.step hb20
 replace r_b_sizes := r_b_sizes.step hb20
 replace r_b_28 := r_b_28.step hb20
 replace r_b_35 := r_b_35.step hb20
 replace hk := thenB hk hb20
 refine w_mv (ex (.tuple #[.string (str ([] : List (BitVec 8))), .int .i64 5])) ?_
 refine w_val ye ?_
 refine w_val ye ?_
 refine w_as es ?_
 refine w_as ei ?_
 refine nt ?_
 refine sr ?_
 refine w_mv es ?_
 refine w_mv es ?_
 refine w_val (y_bin es es b_eqs_same) ?_
 refine w_mv eb ?_
 refine w_val_g (v := .int .i64 5) (wy rfl rfl eb) (y_mv ei) ?_
 refine w_val_g (v := .int .i64 5) (wy rfl rfl eb) (y_mv ei) ?_
 refine w_val_g (wy rfl rfl eb) (y_bin ei ei b_eql) ?_
 refine w_val (y_pick_t eb eb) ?_
 refine w_as eb ?_
 refine nt ?_
 refine wp_ret ?_
 refine fin_ret1 rfl eb ?_
 exact ⟨rfl, hk⟩

theorem ccmGreatX_a (key nonce ad : List (BitVec 8)) (av tv : BitVec 8) (hx : (0#8).toNat < (av % 8#8).toNat ∧ (0#8).toNat < (tv % 8#8).toNat) (size : Nat) (hok : Aes.okKey key.length) (hn : 7 ≤ nonce.length ∧ nonce.length ≤ 13) (h4 : 4 ≤ size) (h16 : size ≤ 16) (hev : size % 2 = 0) (ha : 70000 < (Cm.gz av).length) (w0 : World) : Calls Try.prog 16 #[.agg (arr 4 (fun j => if j < 1 then .string (str key) else if j < 2 then .string (str nonce) else if j < 3 then .string (str ad) else .int .i64 ((size : Nat) : Int))), U8 av, U8 tv] w0 fun e w' => e = .returned (.bool true) ∧ Below w0.heap.size w0 w' := by
 have hm8 : ∀ x : BitVec 8, (x % 8#8).toNat < 8 := fun x => by rw [BitVec.toNat_umod]; exact Nat.mod_lt _ (by decide)
 have h8a := hm8 av
 have h8t := hm8 tv
 have h80 := hm8 0#8
 have hsa := Cm.sizes_le ((av % 8#8).toNat)
 have hst := Cm.sizes_le ((0#8 % 8#8).toNat)
 refine enter (n := 71) Try.func16 rfl rfl rfl ?_
 have hk : Below w0.heap.size w0 w0 := Below.refl _ _
 refine sr ?_
 refine w_box (m := 4) (F := fun j => if j < 1 then .string (str key) else if j < 2 then .string (str nonce) else if j < 3 then .string (str ad) else .int .i64 ((size : Nat) : Int)) ea rfl ?_
 intro b_b w1 hbe_b_b r_b_b hb2
 have ge_b_b : w0.heap.size ≤ b_b := by have := hk.size; omega
 clear hbe_b_b
 replace hk := thenB hk hb2
 refine w_as Ev.c ?_
 refine nt ?_
 refine wp_seq ?_
 refine sr ?_
 refine w_call (Try.func43) (by kernel_rfl) rfl m0 (ccmWakes_c  w1) ?_
 rintro _ w3 ⟨rfl, hb4⟩
 refine ⟨_, rfl, ?_⟩
 replace r_b_b := r_b_b.step hb4
 replace hk := thenB hk hb4
 refine w_val (y_not eb) ?_
 refine nt ?_
 refine c_ff eb ?_
 refine wp_skip ?_
 refine then_n ?_
 refine sr ?_
 refine w_val (v := .agg (arr 8 (fun j => .int .i64 (((Cm.sizes (j)) : Nat) : Int)))) (y_build (vs := #[(0, .int .i64 0), (1, .int .i64 65279), (2, .int .i64 65280), (3, .int .i64 65281), (4, .int .i64 65535), (5, .int .i64 65536), (6, .int .i64 70000), (7, .int .i64 70001)]) (mp_cons Ev.c (mp_cons Ev.c (mp_cons Ev.c (mp_cons Ev.c (mp_cons Ev.c (mp_cons Ev.c (mp_cons Ev.c (mp_cons Ev.c mp0)))))))) (fun w => by kernel_rfl)) ?_
 refine w_alloc (m := 8) (F := fun j => .int .i64 0) (by kernel_rfl) ?_
 intro b_sizes w5 hbe_b_sizes r_b_sizes hb6
 have ne_b_b_b_sizes : b_b ≠ b_sizes := by have := r_b_b.lt; omega
 have ge_b_sizes : w0.heap.size ≤ b_sizes := by have := hk.size; omega
 clear hbe_b_sizes
 replace r_b_b := r_b_b.step hb6
 replace hk := thenB hk hb6
 refine w_sta (k := 8) (G := fun j => .int .i64 (((Cm.sizes (j)) : Nat) : Int)) (ex (pt b_sizes 0)) ea oc CcmLawGT.sz53 r_b_sizes (by omega) ?_
 clear r_b_sizes; intro w7 r_b_sizes hg8 _
 replace r_b_sizes := r_b_sizes.congr (g := fun j => .int .i64 (((Cm.sizes (j)) : Nat) : Int)) (fun j hj => by rw [if_pos ⟨Nat.zero_le _, by omega⟩]; first | rfl | (simp only [Nat.sub_zero]))
 replace r_b_b := r_b_b.stepG hg8 (by omega)
 replace hk := thenG hk hg8 (by omega)
 refine nt ?_
 refine wp_seq ?_
 refine sr ?_
 refine w_mv e8 ?_
 refine w_val (y_bin e8 (evc (U8 (8#8))) (rem8 (by decide))) ?_
 refine w_val (y_bin e8 (evc (U8 (0#8))) gtr8) ?_
 refine w_mv eb ?_
 have hc9 : (0#8).toNat < (av % (8#8)).toNat := by exact hx.1
 refine w_val_g (v := U8 tv) (wy rfl rfl (eb (dt hc9))) (y_mv e8) ?_
 refine w_val_g (wy rfl rfl (eb (dt hc9))) (y_bin e8 (evc (U8 (8#8))) (rem8 (by decide))) ?_
 refine w_val_g (wy rfl rfl (eb (dt hc9))) (y_bin e8 (evc (U8 (0#8))) gtr8) ?_
 refine w_val (y_pick_t (eb (dt hc9)) eb) ?_
 refine nt ?_
 have hc10 : (0#8).toNat < (tv % (8#8)).toNat := by exact hx.2
 refine c_t (p := (0#8).toNat < (tv % (8#8)).toNat) eb hc10 ?_
 refine wp_region_lit ?_
 refine w_as (evc (U8 (0#8))) ?_
 refine nt ?_
 refine sr ?_
 refine w_mv e8 ?_
 refine w_val (y_bin e8 (evc (U8 (8#8))) (rem8 (by decide))) ?_
 refine w_val (y_ia1z (i := ((av % (8#8)).toNat)) (ex (pt b_sizes 0)) (ex (.int .u8 ((av % (8#8)).toNat : Int))) Try.underlying53 CcmLawGT.sz3 rfl (by omega)) ?_
 refine w_val (v := .int .i64 (((Cm.sizes ((av % (8#8)).toNat)) : Nat) : Int)) (y_ld (ex (pt b_sizes ((av % (8#8)).toNat))) CcmLawGT.sc3 (r_b_sizes.val (by omega) rfl)) ?_
 refine w_mks (m := (Cm.sizes ((av % (8#8)).toNat))) (bytes := 1) (zv := U8 (0#8)) ei ei (by omega) (by omega) Try.underlying54 (by kernel_rfl) rfl (by omega) (by omega) ?_
 intro b_28 w11 hbe_b_28 r_b_28 hb12
 have ne_b_b_b_28 : b_b ≠ b_28 := by have := r_b_b.lt; omega
 have ne_b_sizes_b_28 : b_sizes ≠ b_28 := by have := r_b_sizes.lt; omega
 have ge_b_28 : w0.heap.size ≤ b_28 := by have := hk.size; omega
 clear hbe_b_28
 replace r_b_b := r_b_b.step hb12
 replace r_b_sizes := r_b_sizes.step hb12
 replace hk := thenB hk hb12
 refine w_val (y_str (l := Cm.gz av) el (by exact List.length_replicate) Try.underlying54 Try.underlying5 Try.underlying9 (fun j hj => (r_b_28.val (by omega) (by exact congrArg U8 (gb_rep _ _).symm)))) ?_
 refine w_val (v := pt b_b 2) (y_off (y_fa (ex (pt b_b 0)) (CcmLawGT.fa49_2 _ _)) (by first | rfl | omega)) ?_
 refine w_st (v := .string (str (Cm.gz av))) (ex (pt b_b 2)) es rfl rfl CcmLawGT.sz9 r_b_b (by omega) ?_
 clear r_b_b; intro w13 r_b_b hg14 _
 replace r_b_sizes := r_b_sizes.stepG hg14 (by omega)
 replace r_b_28 := r_b_28.stepG hg14 (by omega)
 replace hk := thenG hk hg14 (by omega)
 refine nt ?_
 refine sr ?_
 refine w_mv e8 ?_
 refine w_val (y_bin e8 (evc (U8 (8#8))) (rem8 (by decide))) ?_
 refine w_val (y_ia1z (i := (((0#8) % (8#8)).toNat)) (ex (pt b_sizes 0)) (ex (.int .u8 (((0#8) % (8#8)).toNat : Int))) Try.underlying53 CcmLawGT.sz3 rfl (by omega)) ?_
 refine w_val (v := .int .i64 (((Cm.sizes (((0#8) % (8#8)).toNat)) : Nat) : Int)) (y_ld (ex (pt b_sizes (((0#8) % (8#8)).toNat))) CcmLawGT.sc3 (r_b_sizes.val (by omega) rfl)) ?_
 refine w_mks (m := (Cm.sizes (((0#8) % (8#8)).toNat))) (bytes := 1) (zv := U8 (0#8)) ei ei (by omega) (by omega) Try.underlying54 (by kernel_rfl) rfl (by omega) (by omega) ?_
 intro b_35 w15 hbe_b_35 r_b_35 hb16
 have ne_b_b_b_35 : b_b ≠ b_35 := by have := r_b_b.lt; omega
 have ne_b_sizes_b_35 : b_sizes ≠ b_35 := by have := r_b_sizes.lt; omega
 have ne_b_28_b_35 : b_28 ≠ b_35 := by have := r_b_28.lt; omega
 have ge_b_35 : w0.heap.size ≤ b_35 := by have := hk.size; omega
 clear hbe_b_35
 replace r_b_b := r_b_b.step hb16
 replace r_b_sizes := r_b_sizes.step hb16
 replace r_b_28 := r_b_28.step hb16
 replace hk := thenB hk hb16
 refine w_val (y_str (l := Cm.gz 0#8) el (by exact List.length_replicate) Try.underlying54 Try.underlying5 Try.underlying9 (fun j hj => (r_b_35.val (by omega) (by exact congrArg U8 (gb_rep _ _).symm)))) ?_
 refine w_as es ?_
 refine nt ?_
 refine sr ?_
 refine w_val (v := pt b_b 0) (y_off (y_fa (ex (pt b_b 0)) (CcmLawGT.fa49_0 _ _)) (by first | rfl | omega)) ?_
 refine w_val (v := .string (str key)) (y_ld (ex (pt b_b 0)) CcmLawGT.sc9 (r_b_b.val (by omega) ((if_neg (by omega)).trans (etv (if_pos (by omega)))))) ?_
 refine w_val (v := pt b_b 1) (y_off (y_fa (ex (pt b_b 0)) (CcmLawGT.fa49_1 _ _)) (by first | rfl | omega)) ?_
 refine w_val (v := .string (str nonce)) (y_ld (ex (pt b_b 1)) CcmLawGT.sc9 (r_b_b.val (by omega) ((if_neg (by omega)).trans ((if_neg (by omega)).trans (etv (if_pos (by omega))))))) ?_
 refine w_val (v := pt b_b 2) (y_off (y_fa (ex (pt b_b 0)) (CcmLawGT.fa49_2 _ _)) (by first | rfl | omega)) ?_
 refine w_val (v := .string (str (Cm.gz av))) (y_ld (ex (pt b_b 2)) CcmLawGT.sc9 (r_b_b.val (by omega) (if_pos rfl))) ?_
 refine w_mv es ?_
 refine w_val (v := pt b_b 3) (y_off (y_fa (ex (pt b_b 0)) (CcmLawGT.fa49_3 _ _)) (by first | rfl | omega)) ?_
 refine w_val (v := .int .i64 ((size : Nat) : Int)) (y_ld (ex (pt b_b 3)) CcmLawGT.sc3 (r_b_b.val (by omega) ((if_neg (by omega)).trans ((if_neg (by omega)).trans ((if_neg (by omega)).trans ((if_neg (by omega)).trans (by first | with_reducible rfl | (with_reducible congr 1 <;> omega) | (with_reducible congr 2 <;> omega) | (with_reducible congr 3 <;> omega) | rfl))))))) ?_
 refine w_call (Try.func45) (by kernel_rfl) rfl (m5 es es es es ei) (cmSeal_a key nonce (Cm.gz av) size hok hn h4 h16 hev ha (Cm.gz 0#8) w15) ?_
 rintro _ w17 ⟨rfl, hb18⟩
 refine ⟨_, rfl, ?_⟩
 replace r_b_b := r_b_b.step hb18
 replace r_b_sizes := r_b_sizes.step hb18
 replace r_b_28 := r_b_28.step hb18
 replace r_b_35 := r_b_35.step hb18
 replace hk := thenB hk hb18
 refine w_mv (ex (.tuple #[.string (str ([] : List (BitVec 8))), .int .i64 6])) ?_
 refine w_val ye ?_
 refine w_val ye ?_
 refine w_as es ?_
 refine w_as ei ?_
 refine nt ?_
 refine sr ?_
 refine w_val (v := pt b_b 0) (y_off (y_fa (ex (pt b_b 0)) (CcmLawGT.fa49_0 _ _)) (by first | rfl | omega)) ?_
 refine w_val (v := .string (str key)) (y_ld (ex (pt b_b 0)) CcmLawGT.sc9 (r_b_b.val (by omega) ((if_neg (by omega)).trans (etv (if_pos (by omega)))))) ?_
 refine w_val (v := pt b_b 1) (y_off (y_fa (ex (pt b_b 0)) (CcmLawGT.fa49_1 _ _)) (by first | rfl | omega)) ?_
 refine w_val (v := .string (str nonce)) (y_ld (ex (pt b_b 1)) CcmLawGT.sc9 (r_b_b.val (by omega) ((if_neg (by omega)).trans ((if_neg (by omega)).trans (etv (if_pos (by omega))))))) ?_
 refine w_val (v := pt b_b 2) (y_off (y_fa (ex (pt b_b 0)) (CcmLawGT.fa49_2 _ _)) (by first | rfl | omega)) ?_
 refine w_val (v := .string (str (Cm.gz av))) (y_ld (ex (pt b_b 2)) CcmLawGT.sc9 (r_b_b.val (by omega) (if_pos rfl))) ?_
 refine w_mv es ?_
 refine w_val (v := pt b_b 3) (y_off (y_fa (ex (pt b_b 0)) (CcmLawGT.fa49_3 _ _)) (by first | rfl | omega)) ?_
 refine w_val (v := .int .i64 ((size : Nat) : Int)) (y_ld (ex (pt b_b 3)) CcmLawGT.sc3 (r_b_b.val (by omega) ((if_neg (by omega)).trans ((if_neg (by omega)).trans ((if_neg (by omega)).trans ((if_neg (by omega)).trans (by first | with_reducible rfl | (with_reducible congr 1 <;> omega) | (with_reducible congr 2 <;> omega) | (with_reducible congr 3 <;> omega) | rfl))))))) ?_
 refine w_call (Try.func46) (by kernel_rfl) rfl (m5 es es es es ei) (cmRefSeal_a key nonce (Cm.gz av) size hok hn h4 h16 hev ha (Cm.gz 0#8) w17) ?_
 rintro _ w19 ⟨rfl, hb20⟩
 refine ⟨_, rfl, ?_⟩
 replace r_b_b := r_b_b.step hb20
 replace r_b_sizes := r_b_sizes.step hb20
 replace r_b_28 := r_b_28.step hb20
 replace r_b_35 := r_b_35.step hb20
 replace hk := thenB hk hb20
 refine w_mv (ex (.tuple #[.string (str ([] : List (BitVec 8))), .int .i64 6])) ?_
 refine w_val ye ?_
 refine w_val ye ?_
 refine w_as es ?_
 refine w_as ei ?_
 refine nt ?_
 refine sr ?_
 refine w_mv es ?_
 refine w_mv es ?_
 refine w_val (y_bin es es b_eqs_same) ?_
 refine w_mv eb ?_
 refine w_val_g (v := .int .i64 6) (wy rfl rfl eb) (y_mv ei) ?_
 refine w_val_g (v := .int .i64 6) (wy rfl rfl eb) (y_mv ei) ?_
 refine w_val_g (wy rfl rfl eb) (y_bin ei ei b_eql) ?_
 refine w_val (y_pick_t eb eb) ?_
 refine w_as eb ?_
 refine nt ?_
 refine wp_ret ?_
 refine fin_ret1 rfl eb ?_
 exact ⟨rfl, hk⟩

theorem ccmGreatX_z (key nonce ad : List (BitVec 8)) (av tv : BitVec 8) (hx : (0#8).toNat < (av % 8#8).toNat ∧ (0#8).toNat < (tv % 8#8).toNat) (size : Nat) (hok : Aes.okKey key.length) (hn : 7 ≤ nonce.length ∧ nonce.length ≤ 13) (h4 : 4 ≤ size) (h16 : size ≤ 16) (hev : size % 2 = 0) (ha : (Cm.gz av).length ≤ 70000) (hf : ¬ Cm.Fit (Cm.gz 0#8).length nonce) (w0 : World) : Calls Try.prog 16 #[.agg (arr 4 (fun j => if j < 1 then .string (str key) else if j < 2 then .string (str nonce) else if j < 3 then .string (str ad) else .int .i64 ((size : Nat) : Int))), U8 av, U8 tv] w0 fun e w' => e = .returned (.bool true) ∧ Below w0.heap.size w0 w' := by
 have hm8 : ∀ x : BitVec 8, (x % 8#8).toNat < 8 := fun x => by rw [BitVec.toNat_umod]; exact Nat.mod_lt _ (by decide)
 have h8a := hm8 av
 have h8t := hm8 tv
 have h80 := hm8 0#8
 have hsa := Cm.sizes_le ((av % 8#8).toNat)
 have hst := Cm.sizes_le ((0#8 % 8#8).toNat)
 refine enter (n := 71) Try.func16 rfl rfl rfl ?_
 have hk : Below w0.heap.size w0 w0 := Below.refl _ _
 refine sr ?_
 refine w_box (m := 4) (F := fun j => if j < 1 then .string (str key) else if j < 2 then .string (str nonce) else if j < 3 then .string (str ad) else .int .i64 ((size : Nat) : Int)) ea rfl ?_
 intro b_b w1 hbe_b_b r_b_b hb2
 have ge_b_b : w0.heap.size ≤ b_b := by have := hk.size; omega
 clear hbe_b_b
 replace hk := thenB hk hb2
 refine w_as Ev.c ?_
 refine nt ?_
 refine wp_seq ?_
 refine sr ?_
 refine w_call (Try.func43) (by kernel_rfl) rfl m0 (ccmWakes_c  w1) ?_
 rintro _ w3 ⟨rfl, hb4⟩
 refine ⟨_, rfl, ?_⟩
 replace r_b_b := r_b_b.step hb4
 replace hk := thenB hk hb4
 refine w_val (y_not eb) ?_
 refine nt ?_
 refine c_ff eb ?_
 refine wp_skip ?_
 refine then_n ?_
 refine sr ?_
 refine w_val (v := .agg (arr 8 (fun j => .int .i64 (((Cm.sizes (j)) : Nat) : Int)))) (y_build (vs := #[(0, .int .i64 0), (1, .int .i64 65279), (2, .int .i64 65280), (3, .int .i64 65281), (4, .int .i64 65535), (5, .int .i64 65536), (6, .int .i64 70000), (7, .int .i64 70001)]) (mp_cons Ev.c (mp_cons Ev.c (mp_cons Ev.c (mp_cons Ev.c (mp_cons Ev.c (mp_cons Ev.c (mp_cons Ev.c (mp_cons Ev.c mp0)))))))) (fun w => by kernel_rfl)) ?_
 refine w_alloc (m := 8) (F := fun j => .int .i64 0) (by kernel_rfl) ?_
 intro b_sizes w5 hbe_b_sizes r_b_sizes hb6
 have ne_b_b_b_sizes : b_b ≠ b_sizes := by have := r_b_b.lt; omega
 have ge_b_sizes : w0.heap.size ≤ b_sizes := by have := hk.size; omega
 clear hbe_b_sizes
 replace r_b_b := r_b_b.step hb6
 replace hk := thenB hk hb6
 refine w_sta (k := 8) (G := fun j => .int .i64 (((Cm.sizes (j)) : Nat) : Int)) (ex (pt b_sizes 0)) ea oc CcmLawGT.sz53 r_b_sizes (by omega) ?_
 clear r_b_sizes; intro w7 r_b_sizes hg8 _
 replace r_b_sizes := r_b_sizes.congr (g := fun j => .int .i64 (((Cm.sizes (j)) : Nat) : Int)) (fun j hj => by rw [if_pos ⟨Nat.zero_le _, by omega⟩]; first | rfl | (simp only [Nat.sub_zero]))
 replace r_b_b := r_b_b.stepG hg8 (by omega)
 replace hk := thenG hk hg8 (by omega)
 refine nt ?_
 refine wp_seq ?_
 refine sr ?_
 refine w_mv e8 ?_
 refine w_val (y_bin e8 (evc (U8 (8#8))) (rem8 (by decide))) ?_
 refine w_val (y_bin e8 (evc (U8 (0#8))) gtr8) ?_
 refine w_mv eb ?_
 have hc9 : (0#8).toNat < (av % (8#8)).toNat := by exact hx.1
 refine w_val_g (v := U8 tv) (wy rfl rfl (eb (dt hc9))) (y_mv e8) ?_
 refine w_val_g (wy rfl rfl (eb (dt hc9))) (y_bin e8 (evc (U8 (8#8))) (rem8 (by decide))) ?_
 refine w_val_g (wy rfl rfl (eb (dt hc9))) (y_bin e8 (evc (U8 (0#8))) gtr8) ?_
 refine w_val (y_pick_t (eb (dt hc9)) eb) ?_
 refine nt ?_
 have hc10 : (0#8).toNat < (tv % (8#8)).toNat := by exact hx.2
 refine c_t (p := (0#8).toNat < (tv % (8#8)).toNat) eb hc10 ?_
 refine wp_region_lit ?_
 refine w_as (evc (U8 (0#8))) ?_
 refine nt ?_
 refine sr ?_
 refine w_mv e8 ?_
 refine w_val (y_bin e8 (evc (U8 (8#8))) (rem8 (by decide))) ?_
 refine w_val (y_ia1z (i := ((av % (8#8)).toNat)) (ex (pt b_sizes 0)) (ex (.int .u8 ((av % (8#8)).toNat : Int))) Try.underlying53 CcmLawGT.sz3 rfl (by omega)) ?_
 refine w_val (v := .int .i64 (((Cm.sizes ((av % (8#8)).toNat)) : Nat) : Int)) (y_ld (ex (pt b_sizes ((av % (8#8)).toNat))) CcmLawGT.sc3 (r_b_sizes.val (by omega) rfl)) ?_
 refine w_mks (m := (Cm.sizes ((av % (8#8)).toNat))) (bytes := 1) (zv := U8 (0#8)) ei ei (by omega) (by omega) Try.underlying54 (by kernel_rfl) rfl (by omega) (by omega) ?_
 intro b_28 w11 hbe_b_28 r_b_28 hb12
 have ne_b_b_b_28 : b_b ≠ b_28 := by have := r_b_b.lt; omega
 have ne_b_sizes_b_28 : b_sizes ≠ b_28 := by have := r_b_sizes.lt; omega
 have ge_b_28 : w0.heap.size ≤ b_28 := by have := hk.size; omega
 clear hbe_b_28
 replace r_b_b := r_b_b.step hb12
 replace r_b_sizes := r_b_sizes.step hb12
 replace hk := thenB hk hb12
 refine w_val (y_str (l := Cm.gz av) el (by exact List.length_replicate) Try.underlying54 Try.underlying5 Try.underlying9 (fun j hj => (r_b_28.val (by omega) (by exact congrArg U8 (gb_rep _ _).symm)))) ?_
 refine w_val (v := pt b_b 2) (y_off (y_fa (ex (pt b_b 0)) (CcmLawGT.fa49_2 _ _)) (by first | rfl | omega)) ?_
 refine w_st (v := .string (str (Cm.gz av))) (ex (pt b_b 2)) es rfl rfl CcmLawGT.sz9 r_b_b (by omega) ?_
 clear r_b_b; intro w13 r_b_b hg14 _
 replace r_b_sizes := r_b_sizes.stepG hg14 (by omega)
 replace r_b_28 := r_b_28.stepG hg14 (by omega)
 replace hk := thenG hk hg14 (by omega)
 refine nt ?_
 refine sr ?_
 refine w_mv e8 ?_
 refine w_val (y_bin e8 (evc (U8 (8#8))) (rem8 (by decide))) ?_
 refine w_val (y_ia1z (i := (((0#8) % (8#8)).toNat)) (ex (pt b_sizes 0)) (ex (.int .u8 (((0#8) % (8#8)).toNat : Int))) Try.underlying53 CcmLawGT.sz3 rfl (by omega)) ?_
 refine w_val (v := .int .i64 (((Cm.sizes (((0#8) % (8#8)).toNat)) : Nat) : Int)) (y_ld (ex (pt b_sizes (((0#8) % (8#8)).toNat))) CcmLawGT.sc3 (r_b_sizes.val (by omega) rfl)) ?_
 refine w_mks (m := (Cm.sizes (((0#8) % (8#8)).toNat))) (bytes := 1) (zv := U8 (0#8)) ei ei (by omega) (by omega) Try.underlying54 (by kernel_rfl) rfl (by omega) (by omega) ?_
 intro b_35 w15 hbe_b_35 r_b_35 hb16
 have ne_b_b_b_35 : b_b ≠ b_35 := by have := r_b_b.lt; omega
 have ne_b_sizes_b_35 : b_sizes ≠ b_35 := by have := r_b_sizes.lt; omega
 have ne_b_28_b_35 : b_28 ≠ b_35 := by have := r_b_28.lt; omega
 have ge_b_35 : w0.heap.size ≤ b_35 := by have := hk.size; omega
 clear hbe_b_35
 replace r_b_b := r_b_b.step hb16
 replace r_b_sizes := r_b_sizes.step hb16
 replace r_b_28 := r_b_28.step hb16
 replace hk := thenB hk hb16
 refine w_val (y_str (l := Cm.gz 0#8) el (by exact List.length_replicate) Try.underlying54 Try.underlying5 Try.underlying9 (fun j hj => (r_b_35.val (by omega) (by exact congrArg U8 (gb_rep _ _).symm)))) ?_
 refine w_as es ?_
 refine nt ?_
 refine sr ?_
 refine w_val (v := pt b_b 0) (y_off (y_fa (ex (pt b_b 0)) (CcmLawGT.fa49_0 _ _)) (by first | rfl | omega)) ?_
 refine w_val (v := .string (str key)) (y_ld (ex (pt b_b 0)) CcmLawGT.sc9 (r_b_b.val (by omega) ((if_neg (by omega)).trans (etv (if_pos (by omega)))))) ?_
 refine w_val (v := pt b_b 1) (y_off (y_fa (ex (pt b_b 0)) (CcmLawGT.fa49_1 _ _)) (by first | rfl | omega)) ?_
 refine w_val (v := .string (str nonce)) (y_ld (ex (pt b_b 1)) CcmLawGT.sc9 (r_b_b.val (by omega) ((if_neg (by omega)).trans ((if_neg (by omega)).trans (etv (if_pos (by omega))))))) ?_
 refine w_val (v := pt b_b 2) (y_off (y_fa (ex (pt b_b 0)) (CcmLawGT.fa49_2 _ _)) (by first | rfl | omega)) ?_
 refine w_val (v := .string (str (Cm.gz av))) (y_ld (ex (pt b_b 2)) CcmLawGT.sc9 (r_b_b.val (by omega) (if_pos rfl))) ?_
 refine w_mv es ?_
 refine w_val (v := pt b_b 3) (y_off (y_fa (ex (pt b_b 0)) (CcmLawGT.fa49_3 _ _)) (by first | rfl | omega)) ?_
 refine w_val (v := .int .i64 ((size : Nat) : Int)) (y_ld (ex (pt b_b 3)) CcmLawGT.sc3 (r_b_b.val (by omega) ((if_neg (by omega)).trans ((if_neg (by omega)).trans ((if_neg (by omega)).trans ((if_neg (by omega)).trans (by first | with_reducible rfl | (with_reducible congr 1 <;> omega) | (with_reducible congr 2 <;> omega) | (with_reducible congr 3 <;> omega) | rfl))))))) ?_
 refine w_call (Try.func45) (by kernel_rfl) rfl (m5 es es es es ei) (cmSeal_z key nonce (Cm.gz av) size hok hn h4 h16 hev ha (Cm.gz 0#8) (Nat.le_trans (Cm.gz_le _) (by decide)) hf w15) ?_
 rintro _ w17 ⟨rfl, hb18⟩
 refine ⟨_, rfl, ?_⟩
 replace r_b_b := r_b_b.step hb18
 replace r_b_sizes := r_b_sizes.step hb18
 replace r_b_28 := r_b_28.step hb18
 replace r_b_35 := r_b_35.step hb18
 replace hk := thenB hk hb18
 refine w_mv (ex (.tuple #[.string (str ([] : List (BitVec 8))), .int .i64 6])) ?_
 refine w_val ye ?_
 refine w_val ye ?_
 refine w_as es ?_
 refine w_as ei ?_
 refine nt ?_
 refine sr ?_
 refine w_val (v := pt b_b 0) (y_off (y_fa (ex (pt b_b 0)) (CcmLawGT.fa49_0 _ _)) (by first | rfl | omega)) ?_
 refine w_val (v := .string (str key)) (y_ld (ex (pt b_b 0)) CcmLawGT.sc9 (r_b_b.val (by omega) ((if_neg (by omega)).trans (etv (if_pos (by omega)))))) ?_
 refine w_val (v := pt b_b 1) (y_off (y_fa (ex (pt b_b 0)) (CcmLawGT.fa49_1 _ _)) (by first | rfl | omega)) ?_
 refine w_val (v := .string (str nonce)) (y_ld (ex (pt b_b 1)) CcmLawGT.sc9 (r_b_b.val (by omega) ((if_neg (by omega)).trans ((if_neg (by omega)).trans (etv (if_pos (by omega))))))) ?_
 refine w_val (v := pt b_b 2) (y_off (y_fa (ex (pt b_b 0)) (CcmLawGT.fa49_2 _ _)) (by first | rfl | omega)) ?_
 refine w_val (v := .string (str (Cm.gz av))) (y_ld (ex (pt b_b 2)) CcmLawGT.sc9 (r_b_b.val (by omega) (if_pos rfl))) ?_
 refine w_mv es ?_
 refine w_val (v := pt b_b 3) (y_off (y_fa (ex (pt b_b 0)) (CcmLawGT.fa49_3 _ _)) (by first | rfl | omega)) ?_
 refine w_val (v := .int .i64 ((size : Nat) : Int)) (y_ld (ex (pt b_b 3)) CcmLawGT.sc3 (r_b_b.val (by omega) ((if_neg (by omega)).trans ((if_neg (by omega)).trans ((if_neg (by omega)).trans ((if_neg (by omega)).trans (by first | with_reducible rfl | (with_reducible congr 1 <;> omega) | (with_reducible congr 2 <;> omega) | (with_reducible congr 3 <;> omega) | rfl))))))) ?_
 refine w_call (Try.func46) (by kernel_rfl) rfl (m5 es es es es ei) (cmRefSeal_z key nonce (Cm.gz av) size hok hn h4 h16 hev ha (Cm.gz 0#8) (Nat.le_trans (Cm.gz_le _) (by decide)) hf w17) ?_
 rintro _ w19 ⟨rfl, hb20⟩
 refine ⟨_, rfl, ?_⟩
 replace r_b_b := r_b_b.step hb20
 replace r_b_sizes := r_b_sizes.step hb20
 replace r_b_28 := r_b_28.step hb20
 replace r_b_35 := r_b_35.step hb20
 replace hk := thenB hk hb20
 refine w_mv (ex (.tuple #[.string (str ([] : List (BitVec 8))), .int .i64 6])) ?_
 refine w_val ye ?_
 refine w_val ye ?_
 refine w_as es ?_
 refine w_as ei ?_
 refine nt ?_
 refine sr ?_
 refine w_mv es ?_
 refine w_mv es ?_
 refine w_val (y_bin es es b_eqs_same) ?_
 refine w_mv eb ?_
 refine w_val_g (v := .int .i64 6) (wy rfl rfl eb) (y_mv ei) ?_
 refine w_val_g (v := .int .i64 6) (wy rfl rfl eb) (y_mv ei) ?_
 refine w_val_g (wy rfl rfl eb) (y_bin ei ei b_eql) ?_
 refine w_val (y_pick_t eb eb) ?_
 refine w_as eb ?_
 refine nt ?_
 refine wp_ret ?_
 refine fin_ret1 rfl eb ?_
 exact ⟨rfl, hk⟩

theorem ccmGreatX_y (key nonce ad : List (BitVec 8)) (av tv : BitVec 8) (hx : (0#8).toNat < (av % 8#8).toNat ∧ (0#8).toNat < (tv % 8#8).toNat) (size : Nat) (hok : Aes.okKey key.length) (hn : 7 ≤ nonce.length ∧ nonce.length ≤ 13) (h4 : 4 ≤ size) (h16 : size ≤ 16) (hev : size % 2 = 0) (ha : (Cm.gz av).length ≤ 70000) (hf : Cm.Fit (Cm.gz 0#8).length nonce) (hs : (Cm.gz av).length + (Cm.gz 0#8).length ≤ 139960) (w0 : World) : Calls Try.prog 16 #[.agg (arr 4 (fun j => if j < 1 then .string (str key) else if j < 2 then .string (str nonce) else if j < 3 then .string (str ad) else .int .i64 ((size : Nat) : Int))), U8 av, U8 tv] w0 fun e w' => e = .returned (.bool true) ∧ Below w0.heap.size w0 w' := by
 have hm8 : ∀ x : BitVec 8, (x % 8#8).toNat < 8 := fun x => by rw [BitVec.toNat_umod]; exact Nat.mod_lt _ (by decide)
 have h8a := hm8 av
 have h8t := hm8 tv
 have h80 := hm8 0#8
 have hsa := Cm.sizes_le ((av % 8#8).toNat)
 have hst := Cm.sizes_le ((0#8 % 8#8).toNat)
 refine enter (n := 71) Try.func16 rfl rfl rfl ?_
 have hk : Below w0.heap.size w0 w0 := Below.refl _ _
 refine sr ?_
 refine w_box (m := 4) (F := fun j => if j < 1 then .string (str key) else if j < 2 then .string (str nonce) else if j < 3 then .string (str ad) else .int .i64 ((size : Nat) : Int)) ea rfl ?_
 intro b_b w1 hbe_b_b r_b_b hb2
 have ge_b_b : w0.heap.size ≤ b_b := by have := hk.size; omega
 clear hbe_b_b
 replace hk := thenB hk hb2
 refine w_as Ev.c ?_
 refine nt ?_
 refine wp_seq ?_
 refine sr ?_
 refine w_call (Try.func43) (by kernel_rfl) rfl m0 (ccmWakes_c  w1) ?_
 rintro _ w3 ⟨rfl, hb4⟩
 refine ⟨_, rfl, ?_⟩
 replace r_b_b := r_b_b.step hb4
 replace hk := thenB hk hb4
 refine w_val (y_not eb) ?_
 refine nt ?_
 refine c_ff eb ?_
 refine wp_skip ?_
 refine then_n ?_
 refine sr ?_
 refine w_val (v := .agg (arr 8 (fun j => .int .i64 (((Cm.sizes (j)) : Nat) : Int)))) (y_build (vs := #[(0, .int .i64 0), (1, .int .i64 65279), (2, .int .i64 65280), (3, .int .i64 65281), (4, .int .i64 65535), (5, .int .i64 65536), (6, .int .i64 70000), (7, .int .i64 70001)]) (mp_cons Ev.c (mp_cons Ev.c (mp_cons Ev.c (mp_cons Ev.c (mp_cons Ev.c (mp_cons Ev.c (mp_cons Ev.c (mp_cons Ev.c mp0)))))))) (fun w => by kernel_rfl)) ?_
 refine w_alloc (m := 8) (F := fun j => .int .i64 0) (by kernel_rfl) ?_
 intro b_sizes w5 hbe_b_sizes r_b_sizes hb6
 have ne_b_b_b_sizes : b_b ≠ b_sizes := by have := r_b_b.lt; omega
 have ge_b_sizes : w0.heap.size ≤ b_sizes := by have := hk.size; omega
 clear hbe_b_sizes
 replace r_b_b := r_b_b.step hb6
 replace hk := thenB hk hb6
 refine w_sta (k := 8) (G := fun j => .int .i64 (((Cm.sizes (j)) : Nat) : Int)) (ex (pt b_sizes 0)) ea oc CcmLawGT.sz53 r_b_sizes (by omega) ?_
 clear r_b_sizes; intro w7 r_b_sizes hg8 _
 replace r_b_sizes := r_b_sizes.congr (g := fun j => .int .i64 (((Cm.sizes (j)) : Nat) : Int)) (fun j hj => by rw [if_pos ⟨Nat.zero_le _, by omega⟩]; first | rfl | (simp only [Nat.sub_zero]))
 replace r_b_b := r_b_b.stepG hg8 (by omega)
 replace hk := thenG hk hg8 (by omega)
 refine nt ?_
 refine wp_seq ?_
 refine sr ?_
 refine w_mv e8 ?_
 refine w_val (y_bin e8 (evc (U8 (8#8))) (rem8 (by decide))) ?_
 refine w_val (y_bin e8 (evc (U8 (0#8))) gtr8) ?_
 refine w_mv eb ?_
 have hc9 : (0#8).toNat < (av % (8#8)).toNat := by exact hx.1
 refine w_val_g (v := U8 tv) (wy rfl rfl (eb (dt hc9))) (y_mv e8) ?_
 refine w_val_g (wy rfl rfl (eb (dt hc9))) (y_bin e8 (evc (U8 (8#8))) (rem8 (by decide))) ?_
 refine w_val_g (wy rfl rfl (eb (dt hc9))) (y_bin e8 (evc (U8 (0#8))) gtr8) ?_
 refine w_val (y_pick_t (eb (dt hc9)) eb) ?_
 refine nt ?_
 have hc10 : (0#8).toNat < (tv % (8#8)).toNat := by exact hx.2
 refine c_t (p := (0#8).toNat < (tv % (8#8)).toNat) eb hc10 ?_
 refine wp_region_lit ?_
 refine w_as (evc (U8 (0#8))) ?_
 refine nt ?_
 refine sr ?_
 refine w_mv e8 ?_
 refine w_val (y_bin e8 (evc (U8 (8#8))) (rem8 (by decide))) ?_
 refine w_val (y_ia1z (i := ((av % (8#8)).toNat)) (ex (pt b_sizes 0)) (ex (.int .u8 ((av % (8#8)).toNat : Int))) Try.underlying53 CcmLawGT.sz3 rfl (by omega)) ?_
 refine w_val (v := .int .i64 (((Cm.sizes ((av % (8#8)).toNat)) : Nat) : Int)) (y_ld (ex (pt b_sizes ((av % (8#8)).toNat))) CcmLawGT.sc3 (r_b_sizes.val (by omega) rfl)) ?_
 refine w_mks (m := (Cm.sizes ((av % (8#8)).toNat))) (bytes := 1) (zv := U8 (0#8)) ei ei (by omega) (by omega) Try.underlying54 (by kernel_rfl) rfl (by omega) (by omega) ?_
 intro b_28 w11 hbe_b_28 r_b_28 hb12
 have ne_b_b_b_28 : b_b ≠ b_28 := by have := r_b_b.lt; omega
 have ne_b_sizes_b_28 : b_sizes ≠ b_28 := by have := r_b_sizes.lt; omega
 have ge_b_28 : w0.heap.size ≤ b_28 := by have := hk.size; omega
 clear hbe_b_28
 replace r_b_b := r_b_b.step hb12
 replace r_b_sizes := r_b_sizes.step hb12
 replace hk := thenB hk hb12
 refine w_val (y_str (l := Cm.gz av) el (by exact List.length_replicate) Try.underlying54 Try.underlying5 Try.underlying9 (fun j hj => (r_b_28.val (by omega) (by exact congrArg U8 (gb_rep _ _).symm)))) ?_
 refine w_val (v := pt b_b 2) (y_off (y_fa (ex (pt b_b 0)) (CcmLawGT.fa49_2 _ _)) (by first | rfl | omega)) ?_
 refine w_st (v := .string (str (Cm.gz av))) (ex (pt b_b 2)) es rfl rfl CcmLawGT.sz9 r_b_b (by omega) ?_
 clear r_b_b; intro w13 r_b_b hg14 _
 replace r_b_sizes := r_b_sizes.stepG hg14 (by omega)
 replace r_b_28 := r_b_28.stepG hg14 (by omega)
 replace hk := thenG hk hg14 (by omega)
 refine nt ?_
 refine sr ?_
 refine w_mv e8 ?_
 refine w_val (y_bin e8 (evc (U8 (8#8))) (rem8 (by decide))) ?_
 refine w_val (y_ia1z (i := (((0#8) % (8#8)).toNat)) (ex (pt b_sizes 0)) (ex (.int .u8 (((0#8) % (8#8)).toNat : Int))) Try.underlying53 CcmLawGT.sz3 rfl (by omega)) ?_
 refine w_val (v := .int .i64 (((Cm.sizes (((0#8) % (8#8)).toNat)) : Nat) : Int)) (y_ld (ex (pt b_sizes (((0#8) % (8#8)).toNat))) CcmLawGT.sc3 (r_b_sizes.val (by omega) rfl)) ?_
 refine w_mks (m := (Cm.sizes (((0#8) % (8#8)).toNat))) (bytes := 1) (zv := U8 (0#8)) ei ei (by omega) (by omega) Try.underlying54 (by kernel_rfl) rfl (by omega) (by omega) ?_
 intro b_35 w15 hbe_b_35 r_b_35 hb16
 have ne_b_b_b_35 : b_b ≠ b_35 := by have := r_b_b.lt; omega
 have ne_b_sizes_b_35 : b_sizes ≠ b_35 := by have := r_b_sizes.lt; omega
 have ne_b_28_b_35 : b_28 ≠ b_35 := by have := r_b_28.lt; omega
 have ge_b_35 : w0.heap.size ≤ b_35 := by have := hk.size; omega
 clear hbe_b_35
 replace r_b_b := r_b_b.step hb16
 replace r_b_sizes := r_b_sizes.step hb16
 replace r_b_28 := r_b_28.step hb16
 replace hk := thenB hk hb16
 refine w_val (y_str (l := Cm.gz 0#8) el (by exact List.length_replicate) Try.underlying54 Try.underlying5 Try.underlying9 (fun j hj => (r_b_35.val (by omega) (by exact congrArg U8 (gb_rep _ _).symm)))) ?_
 refine w_as es ?_
 refine nt ?_
 refine sr ?_
 refine w_val (v := pt b_b 0) (y_off (y_fa (ex (pt b_b 0)) (CcmLawGT.fa49_0 _ _)) (by first | rfl | omega)) ?_
 refine w_val (v := .string (str key)) (y_ld (ex (pt b_b 0)) CcmLawGT.sc9 (r_b_b.val (by omega) ((if_neg (by omega)).trans (etv (if_pos (by omega)))))) ?_
 refine w_val (v := pt b_b 1) (y_off (y_fa (ex (pt b_b 0)) (CcmLawGT.fa49_1 _ _)) (by first | rfl | omega)) ?_
 refine w_val (v := .string (str nonce)) (y_ld (ex (pt b_b 1)) CcmLawGT.sc9 (r_b_b.val (by omega) ((if_neg (by omega)).trans ((if_neg (by omega)).trans (etv (if_pos (by omega))))))) ?_
 refine w_val (v := pt b_b 2) (y_off (y_fa (ex (pt b_b 0)) (CcmLawGT.fa49_2 _ _)) (by first | rfl | omega)) ?_
 refine w_val (v := .string (str (Cm.gz av))) (y_ld (ex (pt b_b 2)) CcmLawGT.sc9 (r_b_b.val (by omega) (if_pos rfl))) ?_
 refine w_mv es ?_
 refine w_val (v := pt b_b 3) (y_off (y_fa (ex (pt b_b 0)) (CcmLawGT.fa49_3 _ _)) (by first | rfl | omega)) ?_
 refine w_val (v := .int .i64 ((size : Nat) : Int)) (y_ld (ex (pt b_b 3)) CcmLawGT.sc3 (r_b_b.val (by omega) ((if_neg (by omega)).trans ((if_neg (by omega)).trans ((if_neg (by omega)).trans ((if_neg (by omega)).trans (by first | with_reducible rfl | (with_reducible congr 1 <;> omega) | (with_reducible congr 2 <;> omega) | (with_reducible congr 3 <;> omega) | rfl))))))) ?_
 refine w_call (Try.func45) (by kernel_rfl) rfl (m5 es es es es ei) (cmSeal_y key nonce (Cm.gz av) size hok hn h4 h16 hev ha (Cm.gz 0#8) (Nat.le_trans (Cm.gz_le _) (by decide)) hf hs w15) ?_
 rintro _ w17 ⟨rfl, hb18⟩
 refine ⟨_, rfl, ?_⟩
 replace r_b_b := r_b_b.step hb18
 replace r_b_sizes := r_b_sizes.step hb18
 replace r_b_28 := r_b_28.step hb18
 replace r_b_35 := r_b_35.step hb18
 replace hk := thenB hk hb18
 refine w_mv (ex (.tuple #[.string (str (Cm.sealed key nonce (Cm.gz av) (Cm.gz 0#8) (15 - nonce.length) size)), .int .i64 0])) ?_
 refine w_val ye ?_
 refine w_val ye ?_
 refine w_as es ?_
 refine w_as ei ?_
 refine nt ?_
 refine sr ?_
 refine w_val (v := pt b_b 0) (y_off (y_fa (ex (pt b_b 0)) (CcmLawGT.fa49_0 _ _)) (by first | rfl | omega)) ?_
 refine w_val (v := .string (str key)) (y_ld (ex (pt b_b 0)) CcmLawGT.sc9 (r_b_b.val (by omega) ((if_neg (by omega)).trans (etv (if_pos (by omega)))))) ?_
 refine w_val (v := pt b_b 1) (y_off (y_fa (ex (pt b_b 0)) (CcmLawGT.fa49_1 _ _)) (by first | rfl | omega)) ?_
 refine w_val (v := .string (str nonce)) (y_ld (ex (pt b_b 1)) CcmLawGT.sc9 (r_b_b.val (by omega) ((if_neg (by omega)).trans ((if_neg (by omega)).trans (etv (if_pos (by omega))))))) ?_
 refine w_val (v := pt b_b 2) (y_off (y_fa (ex (pt b_b 0)) (CcmLawGT.fa49_2 _ _)) (by first | rfl | omega)) ?_
 refine w_val (v := .string (str (Cm.gz av))) (y_ld (ex (pt b_b 2)) CcmLawGT.sc9 (r_b_b.val (by omega) (if_pos rfl))) ?_
 refine w_mv es ?_
 refine w_val (v := pt b_b 3) (y_off (y_fa (ex (pt b_b 0)) (CcmLawGT.fa49_3 _ _)) (by first | rfl | omega)) ?_
 refine w_val (v := .int .i64 ((size : Nat) : Int)) (y_ld (ex (pt b_b 3)) CcmLawGT.sc3 (r_b_b.val (by omega) ((if_neg (by omega)).trans ((if_neg (by omega)).trans ((if_neg (by omega)).trans ((if_neg (by omega)).trans (by first | with_reducible rfl | (with_reducible congr 1 <;> omega) | (with_reducible congr 2 <;> omega) | (with_reducible congr 3 <;> omega) | rfl))))))) ?_
 refine w_call (Try.func46) (by kernel_rfl) rfl (m5 es es es es ei) (cmRefSeal_y key nonce (Cm.gz av) size hok hn h4 h16 hev ha (Cm.gz 0#8) (Nat.le_trans (Cm.gz_le _) (by decide)) hf w17) ?_
 rintro _ w19 ⟨rfl, hb20⟩
 refine ⟨_, rfl, ?_⟩
 replace r_b_b := r_b_b.step hb20
 replace r_b_sizes := r_b_sizes.step hb20
 replace r_b_28 := r_b_28.step hb20
 replace r_b_35 := r_b_35.step hb20
 replace hk := thenB hk hb20
 refine w_mv (ex (.tuple #[.string (str (Cm.sealed key nonce (Cm.gz av) (Cm.gz 0#8) (15 - nonce.length) size)), .int .i64 0])) ?_
 refine w_val ye ?_
 refine w_val ye ?_
 refine w_as es ?_
 refine w_as ei ?_
 refine nt ?_
 refine sr ?_
 refine w_mv es ?_
 refine w_mv es ?_
 refine w_val (y_bin es es b_eqs_same) ?_
 refine w_mv eb ?_
 refine w_val_g (v := .int .i64 0) (wy rfl rfl eb) (y_mv ei) ?_
 refine w_val_g (v := .int .i64 0) (wy rfl rfl eb) (y_mv ei) ?_
 refine w_val_g (wy rfl rfl eb) (y_bin ei ei b_eql) ?_
 refine w_val (y_pick_t eb eb) ?_
 refine w_as eb ?_
 refine nt ?_
 refine wp_ret ?_
 refine fin_ret1 rfl eb ?_
 exact ⟨rfl, hk⟩


theorem ccmGreatY_k (key nonce ad : List (BitVec 8)) (av tv : BitVec 8) (hx : ¬ ((0#8).toNat < (av % 8#8).toNat ∧ (0#8).toNat < (tv % 8#8).toNat)) (size : Int) (hok : ¬ Aes.okKey key.length) (w0 : World) : Calls Try.prog 16 #[.agg (arr 4 (fun j => if j < 1 then .string (str key) else if j < 2 then .string (str nonce) else if j < 3 then .string (str ad) else .int .i64 size)), U8 av, U8 tv] w0 fun e w' => e = .returned (.bool true) ∧ Below w0.heap.size w0 w' := by
 have hm8 : ∀ x : BitVec 8, (x % 8#8).toNat < 8 := fun x => by rw [BitVec.toNat_umod]; exact Nat.mod_lt _ (by decide)
 have h8a := hm8 av
 have h8t := hm8 tv
 have h80 := hm8 0#8
 have hsa := Cm.sizes_le ((av % 8#8).toNat)
 have hst := Cm.sizes_le ((tv % 8#8).toNat)
 refine enter (n := 71) Try.func16 rfl rfl rfl ?_
 have hk : Below w0.heap.size w0 w0 := Below.refl _ _
 refine sr ?_
 refine w_box (m := 4) (F := fun j => if j < 1 then .string (str key) else if j < 2 then .string (str nonce) else if j < 3 then .string (str ad) else .int .i64 size) ea rfl ?_
 intro b_b w1 hbe_b_b r_b_b hb2
 have ge_b_b : w0.heap.size ≤ b_b := by have := hk.size; omega
 clear hbe_b_b
 replace hk := thenB hk hb2
 refine w_as Ev.c ?_
 refine nt ?_
 refine wp_seq ?_
 refine sr ?_
 refine w_call (Try.func43) (by kernel_rfl) rfl m0 (ccmWakes_c  w1) ?_
 rintro _ w3 ⟨rfl, hb4⟩
 refine ⟨_, rfl, ?_⟩
 replace r_b_b := r_b_b.step hb4
 replace hk := thenB hk hb4
 refine w_val (y_not eb) ?_
 refine nt ?_
 refine c_ff eb ?_
 refine wp_skip ?_
 refine then_n ?_
 refine sr ?_
 refine w_val (v := .agg (arr 8 (fun j => .int .i64 (((Cm.sizes (j)) : Nat) : Int)))) (y_build (vs := #[(0, .int .i64 0), (1, .int .i64 65279), (2, .int .i64 65280), (3, .int .i64 65281), (4, .int .i64 65535), (5, .int .i64 65536), (6, .int .i64 70000), (7, .int .i64 70001)]) (mp_cons Ev.c (mp_cons Ev.c (mp_cons Ev.c (mp_cons Ev.c (mp_cons Ev.c (mp_cons Ev.c (mp_cons Ev.c (mp_cons Ev.c mp0)))))))) (fun w => by kernel_rfl)) ?_
 refine w_alloc (m := 8) (F := fun j => .int .i64 0) (by kernel_rfl) ?_
 intro b_sizes w5 hbe_b_sizes r_b_sizes hb6
 have ne_b_b_b_sizes : b_b ≠ b_sizes := by have := r_b_b.lt; omega
 have ge_b_sizes : w0.heap.size ≤ b_sizes := by have := hk.size; omega
 clear hbe_b_sizes
 replace r_b_b := r_b_b.step hb6
 replace hk := thenB hk hb6
 refine w_sta (k := 8) (G := fun j => .int .i64 (((Cm.sizes (j)) : Nat) : Int)) (ex (pt b_sizes 0)) ea oc CcmLawGT.sz53 r_b_sizes (by omega) ?_
 clear r_b_sizes; intro w7 r_b_sizes hg8 _
 replace r_b_sizes := r_b_sizes.congr (g := fun j => .int .i64 (((Cm.sizes (j)) : Nat) : Int)) (fun j hj => by rw [if_pos ⟨Nat.zero_le _, by omega⟩]; first | rfl | (simp only [Nat.sub_zero]))
 replace r_b_b := r_b_b.stepG hg8 (by omega)
 replace hk := thenG hk hg8 (by omega)
 refine nt ?_
 refine wp_seq ?_
 refine sr ?_
 refine w_mv e8 ?_
 refine w_val (y_bin e8 (evc (U8 (8#8))) (rem8 (by decide))) ?_
 refine w_val (y_bin e8 (evc (U8 (0#8))) gtr8) ?_
 refine w_mv eb ?_
 by_cases hc9 : (0#8).toNat < (av % (8#8)).toNat
 ·skip
  refine w_val_g (v := U8 tv) (wy rfl rfl (eb (dt hc9))) (y_mv e8) ?_
  refine w_val_g (wy rfl rfl (eb (dt hc9))) (y_bin e8 (evc (U8 (8#8))) (rem8 (by decide))) ?_
  refine w_val_g (wy rfl rfl (eb (dt hc9))) (y_bin e8 (evc (U8 (0#8))) gtr8) ?_
  refine w_val (y_pick_t (eb (dt hc9)) eb) ?_
  refine nt ?_
  have hc10 : ¬ ((0#8).toNat < (tv % (8#8)).toNat) := by exact fun h => hx ⟨by assumption, h⟩
  refine c_f (p := (0#8).toNat < (tv % (8#8)).toNat) eb hc10 ?_
  refine wp_skip ?_
  refine then_n ?_
  refine sr ?_
  refine w_mv e8 ?_
  refine w_val (y_bin e8 (evc (U8 (8#8))) (rem8 (by decide))) ?_
  refine w_val (y_ia1z (i := ((av % (8#8)).toNat)) (ex (pt b_sizes 0)) (ex (.int .u8 ((av % (8#8)).toNat : Int))) Try.underlying53 CcmLawGT.sz3 rfl (by omega)) ?_
  refine w_val (v := .int .i64 (((Cm.sizes ((av % (8#8)).toNat)) : Nat) : Int)) (y_ld (ex (pt b_sizes ((av % (8#8)).toNat))) CcmLawGT.sc3 (r_b_sizes.val (by omega) rfl)) ?_
  refine w_mks (m := (Cm.sizes ((av % (8#8)).toNat))) (bytes := 1) (zv := U8 (0#8)) ei ei (by omega) (by omega) Try.underlying54 (by kernel_rfl) rfl (by omega) (by omega) ?_
  intro b_28 w11 hbe_b_28 r_b_28 hb12
  have ne_b_b_b_28 : b_b ≠ b_28 := by have := r_b_b.lt; omega
  have ne_b_sizes_b_28 : b_sizes ≠ b_28 := by have := r_b_sizes.lt; omega
  have ge_b_28 : w0.heap.size ≤ b_28 := by have := hk.size; omega
  clear hbe_b_28
  replace r_b_b := r_b_b.step hb12
  replace r_b_sizes := r_b_sizes.step hb12
  replace hk := thenB hk hb12
  refine w_val (y_str (l := Cm.gz av) el (by exact List.length_replicate) Try.underlying54 Try.underlying5 Try.underlying9 (fun j hj => (r_b_28.val (by omega) (by exact congrArg U8 (gb_rep _ _).symm)))) ?_
  refine w_val (v := pt b_b 2) (y_off (y_fa (ex (pt b_b 0)) (CcmLawGT.fa49_2 _ _)) (by first | rfl | omega)) ?_
  refine w_st (v := .string (str (Cm.gz av))) (ex (pt b_b 2)) es rfl rfl CcmLawGT.sz9 r_b_b (by omega) ?_
  clear r_b_b; intro w13 r_b_b hg14 _
  replace r_b_sizes := r_b_sizes.stepG hg14 (by omega)
  replace r_b_28 := r_b_28.stepG hg14 (by omega)
  replace hk := thenG hk hg14 (by omega)
  refine nt ?_
  refine sr ?_
  refine w_mv e8 ?_
  refine w_val (y_bin e8 (evc (U8 (8#8))) (rem8 (by decide))) ?_
  refine w_val (y_ia1z (i := ((tv % (8#8)).toNat)) (ex (pt b_sizes 0)) (ex (.int .u8 ((tv % (8#8)).toNat : Int))) Try.underlying53 CcmLawGT.sz3 rfl (by omega)) ?_
  refine w_val (v := .int .i64 (((Cm.sizes ((tv % (8#8)).toNat)) : Nat) : Int)) (y_ld (ex (pt b_sizes ((tv % (8#8)).toNat))) CcmLawGT.sc3 (r_b_sizes.val (by omega) rfl)) ?_
  refine w_mks (m := (Cm.sizes ((tv % (8#8)).toNat))) (bytes := 1) (zv := U8 (0#8)) ei ei (by omega) (by omega) Try.underlying54 (by kernel_rfl) rfl (by omega) (by omega) ?_
  intro b_35 w15 hbe_b_35 r_b_35 hb16
  have ne_b_b_b_35 : b_b ≠ b_35 := by have := r_b_b.lt; omega
  have ne_b_sizes_b_35 : b_sizes ≠ b_35 := by have := r_b_sizes.lt; omega
  have ne_b_28_b_35 : b_28 ≠ b_35 := by have := r_b_28.lt; omega
  have ge_b_35 : w0.heap.size ≤ b_35 := by have := hk.size; omega
  clear hbe_b_35
  replace r_b_b := r_b_b.step hb16
  replace r_b_sizes := r_b_sizes.step hb16
  replace r_b_28 := r_b_28.step hb16
  replace hk := thenB hk hb16
  refine w_val (y_str (l := Cm.gz tv) el (by exact List.length_replicate) Try.underlying54 Try.underlying5 Try.underlying9 (fun j hj => (r_b_35.val (by omega) (by exact congrArg U8 (gb_rep _ _).symm)))) ?_
  refine w_as es ?_
  refine nt ?_
  refine sr ?_
  refine w_val (v := pt b_b 0) (y_off (y_fa (ex (pt b_b 0)) (CcmLawGT.fa49_0 _ _)) (by first | rfl | omega)) ?_
  refine w_val (v := .string (str key)) (y_ld (ex (pt b_b 0)) CcmLawGT.sc9 (r_b_b.val (by omega) ((if_neg (by omega)).trans (etv (if_pos (by omega)))))) ?_
  refine w_val (v := pt b_b 1) (y_off (y_fa (ex (pt b_b 0)) (CcmLawGT.fa49_1 _ _)) (by first | rfl | omega)) ?_
  refine w_val (v := .string (str nonce)) (y_ld (ex (pt b_b 1)) CcmLawGT.sc9 (r_b_b.val (by omega) ((if_neg (by omega)).trans ((if_neg (by omega)).trans (etv (if_pos (by omega))))))) ?_
  refine w_val (v := pt b_b 2) (y_off (y_fa (ex (pt b_b 0)) (CcmLawGT.fa49_2 _ _)) (by first | rfl | omega)) ?_
  refine w_val (v := .string (str (Cm.gz av))) (y_ld (ex (pt b_b 2)) CcmLawGT.sc9 (r_b_b.val (by omega) (if_pos rfl))) ?_
  refine w_mv es ?_
  refine w_val (v := pt b_b 3) (y_off (y_fa (ex (pt b_b 0)) (CcmLawGT.fa49_3 _ _)) (by first | rfl | omega)) ?_
  refine w_val (v := .int .i64 size) (y_ld (ex (pt b_b 3)) CcmLawGT.sc3 (r_b_b.val (by omega) ((if_neg (by omega)).trans ((if_neg (by omega)).trans ((if_neg (by omega)).trans ((if_neg (by omega)).trans (by first | with_reducible rfl | (with_reducible congr 1 <;> omega) | (with_reducible congr 2 <;> omega) | (with_reducible congr 3 <;> omega) | rfl))))))) ?_
  refine w_call (Try.func45) (by kernel_rfl) rfl (m5 es es es es ei) (cmSeal_k key nonce (Cm.gz av) size hok (Cm.gz tv) w15) ?_
  rintro _ w17 ⟨rfl, hb18⟩
  refine ⟨_, rfl, ?_⟩
  replace r_b_b := r_b_b.step hb18
  replace r_b_sizes := r_b_sizes.step hb18
  replace r_b_28 := r_b_28.step hb18
  replace r_b_35 := r_b_35.step hb18
  replace hk := thenB hk hb18
  refine w_mv (ex (.tuple #[.string (str ([] : List (BitVec 8))), .int .i64 3])) ?_
  refine w_val ye ?_
  refine w_val ye ?_
  refine w_as es ?_
  refine w_as ei ?_
  refine nt ?_
  refine sr ?_
  refine w_val (v := pt b_b 0) (y_off (y_fa (ex (pt b_b 0)) (CcmLawGT.fa49_0 _ _)) (by first | rfl | omega)) ?_
  refine w_val (v := .string (str key)) (y_ld (ex (pt b_b 0)) CcmLawGT.sc9 (r_b_b.val (by omega) ((if_neg (by omega)).trans (etv (if_pos (by omega)))))) ?_
  refine w_val (v := pt b_b 1) (y_off (y_fa (ex (pt b_b 0)) (CcmLawGT.fa49_1 _ _)) (by first | rfl | omega)) ?_
  refine w_val (v := .string (str nonce)) (y_ld (ex (pt b_b 1)) CcmLawGT.sc9 (r_b_b.val (by omega) ((if_neg (by omega)).trans ((if_neg (by omega)).trans (etv (if_pos (by omega))))))) ?_
  refine w_val (v := pt b_b 2) (y_off (y_fa (ex (pt b_b 0)) (CcmLawGT.fa49_2 _ _)) (by first | rfl | omega)) ?_
  refine w_val (v := .string (str (Cm.gz av))) (y_ld (ex (pt b_b 2)) CcmLawGT.sc9 (r_b_b.val (by omega) (if_pos rfl))) ?_
  refine w_mv es ?_
  refine w_val (v := pt b_b 3) (y_off (y_fa (ex (pt b_b 0)) (CcmLawGT.fa49_3 _ _)) (by first | rfl | omega)) ?_
  refine w_val (v := .int .i64 size) (y_ld (ex (pt b_b 3)) CcmLawGT.sc3 (r_b_b.val (by omega) ((if_neg (by omega)).trans ((if_neg (by omega)).trans ((if_neg (by omega)).trans ((if_neg (by omega)).trans (by first | with_reducible rfl | (with_reducible congr 1 <;> omega) | (with_reducible congr 2 <;> omega) | (with_reducible congr 3 <;> omega) | rfl))))))) ?_
  refine w_call (Try.func46) (by kernel_rfl) rfl (m5 es es es es ei) (cmRefSeal_k key nonce (Cm.gz av) size hok (Cm.gz tv) w17) ?_
  rintro _ w19 ⟨rfl, hb20⟩
  refine ⟨_, rfl, ?_⟩
  replace r_b_b := r_b_b.step hb20
  replace r_b_sizes := r_b_sizes.step hb20
  replace r_b_28 := r_b_28.step hb20
  replace r_b_35 := r_b_35.step hb20
  replace hk := thenB hk hb20
  refine w_mv (ex (.tuple #[.string (str ([] : List (BitVec 8))), .int .i64 3])) ?_
  refine w_val ye ?_
  refine w_val ye ?_
  refine w_as es ?_
  refine w_as ei ?_
  refine nt ?_
  refine sr ?_
  refine w_mv es ?_
  refine w_mv es ?_
  refine w_val (y_bin es es b_eqs_same) ?_
  refine w_mv eb ?_
  refine w_val_g (v := .int .i64 3) (wy rfl rfl eb) (y_mv ei) ?_
  refine w_val_g (v := .int .i64 3) (wy rfl rfl eb) (y_mv ei) ?_
  refine w_val_g (wy rfl rfl eb) (y_bin ei ei b_eql) ?_
  refine w_val (y_pick_t eb eb) ?_
  refine w_as eb ?_
  refine nt ?_
  refine wp_ret ?_
  refine fin_ret1 rfl eb ?_
  exact ⟨rfl, hk⟩
 ·skip
  with_reducible refine w_skip ?_ ?_
  exact wn rfl rfl (eb (df hc9))
  with_reducible refine w_skip ?_ ?_
  exact wn rfl rfl (eb (df hc9))
  with_reducible refine w_skip ?_ ?_
  exact wn rfl rfl (eb (df hc9))
  refine w_val (y_pick_f (eb (df hc9)) Ev.c) ?_
  refine nt ?_
  refine c_ff eb ?_
  refine wp_skip ?_
  refine then_n ?_
  refine sr ?_
  refine w_mv e8 ?_
  refine w_val (y_bin e8 (evc (U8 (8#8))) (rem8 (by decide))) ?_
  refine w_val (y_ia1z (i := ((av % (8#8)).toNat)) (ex (pt b_sizes 0)) (ex (.int .u8 ((av % (8#8)).toNat : Int))) Try.underlying53 CcmLawGT.sz3 rfl (by omega)) ?_
  refine w_val (v := .int .i64 (((Cm.sizes ((av % (8#8)).toNat)) : Nat) : Int)) (y_ld (ex (pt b_sizes ((av % (8#8)).toNat))) CcmLawGT.sc3 (r_b_sizes.val (by omega) rfl)) ?_
  refine w_mks (m := (Cm.sizes ((av % (8#8)).toNat))) (bytes := 1) (zv := U8 (0#8)) ei ei (by omega) (by omega) Try.underlying54 (by kernel_rfl) rfl (by omega) (by omega) ?_
  intro b_28 w21 hbe_b_28 r_b_28 hb22
  have ne_b_b_b_28 : b_b ≠ b_28 := by have := r_b_b.lt; omega
  have ne_b_sizes_b_28 : b_sizes ≠ b_28 := by have := r_b_sizes.lt; omega
  have ge_b_28 : w0.heap.size ≤ b_28 := by have := hk.size; omega
  clear hbe_b_28
  replace r_b_b := r_b_b.step hb22
  replace r_b_sizes := r_b_sizes.step hb22
  replace hk := thenB hk hb22
  refine w_val (y_str (l := Cm.gz av) el (by exact List.length_replicate) Try.underlying54 Try.underlying5 Try.underlying9 (fun j hj => (r_b_28.val (by omega) (by exact congrArg U8 (gb_rep _ _).symm)))) ?_
  refine w_val (v := pt b_b 2) (y_off (y_fa (ex (pt b_b 0)) (CcmLawGT.fa49_2 _ _)) (by first | rfl | omega)) ?_
  refine w_st (v := .string (str (Cm.gz av))) (ex (pt b_b 2)) es rfl rfl CcmLawGT.sz9 r_b_b (by omega) ?_
  clear r_b_b; intro w23 r_b_b hg24 _
  replace r_b_sizes := r_b_sizes.stepG hg24 (by omega)
  replace r_b_28 := r_b_28.stepG hg24 (by omega)
  replace hk := thenG hk hg24 (by omega)
  refine nt ?_
  refine sr ?_
  refine w_mv e8 ?_
  refine w_val (y_bin e8 (evc (U8 (8#8))) (rem8 (by decide))) ?_
  refine w_val (y_ia1z (i := ((tv % (8#8)).toNat)) (ex (pt b_sizes 0)) (ex (.int .u8 ((tv % (8#8)).toNat : Int))) Try.underlying53 CcmLawGT.sz3 rfl (by omega)) ?_
  refine w_val (v := .int .i64 (((Cm.sizes ((tv % (8#8)).toNat)) : Nat) : Int)) (y_ld (ex (pt b_sizes ((tv % (8#8)).toNat))) CcmLawGT.sc3 (r_b_sizes.val (by omega) rfl)) ?_
  refine w_mks (m := (Cm.sizes ((tv % (8#8)).toNat))) (bytes := 1) (zv := U8 (0#8)) ei ei (by omega) (by omega) Try.underlying54 (by kernel_rfl) rfl (by omega) (by omega) ?_
  intro b_35 w25 hbe_b_35 r_b_35 hb26
  have ne_b_b_b_35 : b_b ≠ b_35 := by have := r_b_b.lt; omega
  have ne_b_sizes_b_35 : b_sizes ≠ b_35 := by have := r_b_sizes.lt; omega
  have ne_b_28_b_35 : b_28 ≠ b_35 := by have := r_b_28.lt; omega
  have ge_b_35 : w0.heap.size ≤ b_35 := by have := hk.size; omega
  clear hbe_b_35
  replace r_b_b := r_b_b.step hb26
  replace r_b_sizes := r_b_sizes.step hb26
  replace r_b_28 := r_b_28.step hb26
  replace hk := thenB hk hb26
  refine w_val (y_str (l := Cm.gz tv) el (by exact List.length_replicate) Try.underlying54 Try.underlying5 Try.underlying9 (fun j hj => (r_b_35.val (by omega) (by exact congrArg U8 (gb_rep _ _).symm)))) ?_
  refine w_as es ?_
  refine nt ?_
  refine sr ?_
  refine w_val (v := pt b_b 0) (y_off (y_fa (ex (pt b_b 0)) (CcmLawGT.fa49_0 _ _)) (by first | rfl | omega)) ?_
  refine w_val (v := .string (str key)) (y_ld (ex (pt b_b 0)) CcmLawGT.sc9 (r_b_b.val (by omega) ((if_neg (by omega)).trans (etv (if_pos (by omega)))))) ?_
  refine w_val (v := pt b_b 1) (y_off (y_fa (ex (pt b_b 0)) (CcmLawGT.fa49_1 _ _)) (by first | rfl | omega)) ?_
  refine w_val (v := .string (str nonce)) (y_ld (ex (pt b_b 1)) CcmLawGT.sc9 (r_b_b.val (by omega) ((if_neg (by omega)).trans ((if_neg (by omega)).trans (etv (if_pos (by omega))))))) ?_
  refine w_val (v := pt b_b 2) (y_off (y_fa (ex (pt b_b 0)) (CcmLawGT.fa49_2 _ _)) (by first | rfl | omega)) ?_
  refine w_val (v := .string (str (Cm.gz av))) (y_ld (ex (pt b_b 2)) CcmLawGT.sc9 (r_b_b.val (by omega) (if_pos rfl))) ?_
  refine w_mv es ?_
  refine w_val (v := pt b_b 3) (y_off (y_fa (ex (pt b_b 0)) (CcmLawGT.fa49_3 _ _)) (by first | rfl | omega)) ?_
  refine w_val (v := .int .i64 size) (y_ld (ex (pt b_b 3)) CcmLawGT.sc3 (r_b_b.val (by omega) ((if_neg (by omega)).trans ((if_neg (by omega)).trans ((if_neg (by omega)).trans ((if_neg (by omega)).trans (by first | with_reducible rfl | (with_reducible congr 1 <;> omega) | (with_reducible congr 2 <;> omega) | (with_reducible congr 3 <;> omega) | rfl))))))) ?_
  refine w_call (Try.func45) (by kernel_rfl) rfl (m5 es es es es ei) (cmSeal_k key nonce (Cm.gz av) size hok (Cm.gz tv) w25) ?_
  rintro _ w27 ⟨rfl, hb28⟩
  refine ⟨_, rfl, ?_⟩
  replace r_b_b := r_b_b.step hb28
  replace r_b_sizes := r_b_sizes.step hb28
  replace r_b_28 := r_b_28.step hb28
  replace r_b_35 := r_b_35.step hb28
  replace hk := thenB hk hb28
  refine w_mv (ex (.tuple #[.string (str ([] : List (BitVec 8))), .int .i64 3])) ?_
  refine w_val ye ?_
  refine w_val ye ?_
  refine w_as es ?_
  refine w_as ei ?_
  refine nt ?_
  refine sr ?_
  refine w_val (v := pt b_b 0) (y_off (y_fa (ex (pt b_b 0)) (CcmLawGT.fa49_0 _ _)) (by first | rfl | omega)) ?_
  refine w_val (v := .string (str key)) (y_ld (ex (pt b_b 0)) CcmLawGT.sc9 (r_b_b.val (by omega) ((if_neg (by omega)).trans (etv (if_pos (by omega)))))) ?_
  refine w_val (v := pt b_b 1) (y_off (y_fa (ex (pt b_b 0)) (CcmLawGT.fa49_1 _ _)) (by first | rfl | omega)) ?_
  refine w_val (v := .string (str nonce)) (y_ld (ex (pt b_b 1)) CcmLawGT.sc9 (r_b_b.val (by omega) ((if_neg (by omega)).trans ((if_neg (by omega)).trans (etv (if_pos (by omega))))))) ?_
  refine w_val (v := pt b_b 2) (y_off (y_fa (ex (pt b_b 0)) (CcmLawGT.fa49_2 _ _)) (by first | rfl | omega)) ?_
  refine w_val (v := .string (str (Cm.gz av))) (y_ld (ex (pt b_b 2)) CcmLawGT.sc9 (r_b_b.val (by omega) (if_pos rfl))) ?_
  refine w_mv es ?_
  refine w_val (v := pt b_b 3) (y_off (y_fa (ex (pt b_b 0)) (CcmLawGT.fa49_3 _ _)) (by first | rfl | omega)) ?_
  refine w_val (v := .int .i64 size) (y_ld (ex (pt b_b 3)) CcmLawGT.sc3 (r_b_b.val (by omega) ((if_neg (by omega)).trans ((if_neg (by omega)).trans ((if_neg (by omega)).trans ((if_neg (by omega)).trans (by first | with_reducible rfl | (with_reducible congr 1 <;> omega) | (with_reducible congr 2 <;> omega) | (with_reducible congr 3 <;> omega) | rfl))))))) ?_
  refine w_call (Try.func46) (by kernel_rfl) rfl (m5 es es es es ei) (cmRefSeal_k key nonce (Cm.gz av) size hok (Cm.gz tv) w27) ?_
  rintro _ w29 ⟨rfl, hb30⟩
  refine ⟨_, rfl, ?_⟩
  replace r_b_b := r_b_b.step hb30
  replace r_b_sizes := r_b_sizes.step hb30
  replace r_b_28 := r_b_28.step hb30
  replace r_b_35 := r_b_35.step hb30
  replace hk := thenB hk hb30
  refine w_mv (ex (.tuple #[.string (str ([] : List (BitVec 8))), .int .i64 3])) ?_
  refine w_val ye ?_
  refine w_val ye ?_
  refine w_as es ?_
  refine w_as ei ?_
  refine nt ?_
  refine sr ?_
  refine w_mv es ?_
  refine w_mv es ?_
  refine w_val (y_bin es es b_eqs_same) ?_
  refine w_mv eb ?_
  refine w_val_g (v := .int .i64 3) (wy rfl rfl eb) (y_mv ei) ?_
  refine w_val_g (v := .int .i64 3) (wy rfl rfl eb) (y_mv ei) ?_
  refine w_val_g (wy rfl rfl eb) (y_bin ei ei b_eql) ?_
  refine w_val (y_pick_t eb eb) ?_
  refine w_as eb ?_
  refine nt ?_
  refine wp_ret ?_
  refine fin_ret1 rfl eb ?_
  exact ⟨rfl, hk⟩

theorem ccmGreatY_n (key nonce ad : List (BitVec 8)) (av tv : BitVec 8) (hx : ¬ ((0#8).toNat < (av % 8#8).toNat ∧ (0#8).toNat < (tv % 8#8).toNat)) (size : Int) (hok : Aes.okKey key.length) (hn : ¬ (7 ≤ nonce.length ∧ nonce.length ≤ 13)) (w0 : World) : Calls Try.prog 16 #[.agg (arr 4 (fun j => if j < 1 then .string (str key) else if j < 2 then .string (str nonce) else if j < 3 then .string (str ad) else .int .i64 size)), U8 av, U8 tv] w0 fun e w' => e = .returned (.bool true) ∧ Below w0.heap.size w0 w' := by
 have hm8 : ∀ x : BitVec 8, (x % 8#8).toNat < 8 := fun x => by rw [BitVec.toNat_umod]; exact Nat.mod_lt _ (by decide)
 have h8a := hm8 av
 have h8t := hm8 tv
 have h80 := hm8 0#8
 have hsa := Cm.sizes_le ((av % 8#8).toNat)
 have hst := Cm.sizes_le ((tv % 8#8).toNat)
 refine enter (n := 71) Try.func16 rfl rfl rfl ?_
 have hk : Below w0.heap.size w0 w0 := Below.refl _ _
 refine sr ?_
 refine w_box (m := 4) (F := fun j => if j < 1 then .string (str key) else if j < 2 then .string (str nonce) else if j < 3 then .string (str ad) else .int .i64 size) ea rfl ?_
 intro b_b w1 hbe_b_b r_b_b hb2
 have ge_b_b : w0.heap.size ≤ b_b := by have := hk.size; omega
 clear hbe_b_b
 replace hk := thenB hk hb2
 refine w_as Ev.c ?_
 refine nt ?_
 refine wp_seq ?_
 refine sr ?_
 refine w_call (Try.func43) (by kernel_rfl) rfl m0 (ccmWakes_c  w1) ?_
 rintro _ w3 ⟨rfl, hb4⟩
 refine ⟨_, rfl, ?_⟩
 replace r_b_b := r_b_b.step hb4
 replace hk := thenB hk hb4
 refine w_val (y_not eb) ?_
 refine nt ?_
 refine c_ff eb ?_
 refine wp_skip ?_
 refine then_n ?_
 refine sr ?_
 refine w_val (v := .agg (arr 8 (fun j => .int .i64 (((Cm.sizes (j)) : Nat) : Int)))) (y_build (vs := #[(0, .int .i64 0), (1, .int .i64 65279), (2, .int .i64 65280), (3, .int .i64 65281), (4, .int .i64 65535), (5, .int .i64 65536), (6, .int .i64 70000), (7, .int .i64 70001)]) (mp_cons Ev.c (mp_cons Ev.c (mp_cons Ev.c (mp_cons Ev.c (mp_cons Ev.c (mp_cons Ev.c (mp_cons Ev.c (mp_cons Ev.c mp0)))))))) (fun w => by kernel_rfl)) ?_
 refine w_alloc (m := 8) (F := fun j => .int .i64 0) (by kernel_rfl) ?_
 intro b_sizes w5 hbe_b_sizes r_b_sizes hb6
 have ne_b_b_b_sizes : b_b ≠ b_sizes := by have := r_b_b.lt; omega
 have ge_b_sizes : w0.heap.size ≤ b_sizes := by have := hk.size; omega
 clear hbe_b_sizes
 replace r_b_b := r_b_b.step hb6
 replace hk := thenB hk hb6
 refine w_sta (k := 8) (G := fun j => .int .i64 (((Cm.sizes (j)) : Nat) : Int)) (ex (pt b_sizes 0)) ea oc CcmLawGT.sz53 r_b_sizes (by omega) ?_
 clear r_b_sizes; intro w7 r_b_sizes hg8 _
 replace r_b_sizes := r_b_sizes.congr (g := fun j => .int .i64 (((Cm.sizes (j)) : Nat) : Int)) (fun j hj => by rw [if_pos ⟨Nat.zero_le _, by omega⟩]; first | rfl | (simp only [Nat.sub_zero]))
 replace r_b_b := r_b_b.stepG hg8 (by omega)
 replace hk := thenG hk hg8 (by omega)
 refine nt ?_
 refine wp_seq ?_
 refine sr ?_
 refine w_mv e8 ?_
 refine w_val (y_bin e8 (evc (U8 (8#8))) (rem8 (by decide))) ?_
 refine w_val (y_bin e8 (evc (U8 (0#8))) gtr8) ?_
 refine w_mv eb ?_
 by_cases hc9 : (0#8).toNat < (av % (8#8)).toNat
 ·skip
  refine w_val_g (v := U8 tv) (wy rfl rfl (eb (dt hc9))) (y_mv e8) ?_
  refine w_val_g (wy rfl rfl (eb (dt hc9))) (y_bin e8 (evc (U8 (8#8))) (rem8 (by decide))) ?_
  refine w_val_g (wy rfl rfl (eb (dt hc9))) (y_bin e8 (evc (U8 (0#8))) gtr8) ?_
  refine w_val (y_pick_t (eb (dt hc9)) eb) ?_
  refine nt ?_
  have hc10 : ¬ ((0#8).toNat < (tv % (8#8)).toNat) := by exact fun h => hx ⟨by assumption, h⟩
  refine c_f (p := (0#8).toNat < (tv % (8#8)).toNat) eb hc10 ?_
  refine wp_skip ?_
  refine then_n ?_
  refine sr ?_
  refine w_mv e8 ?_
  refine w_val (y_bin e8 (evc (U8 (8#8))) (rem8 (by decide))) ?_
  refine w_val (y_ia1z (i := ((av % (8#8)).toNat)) (ex (pt b_sizes 0)) (ex (.int .u8 ((av % (8#8)).toNat : Int))) Try.underlying53 CcmLawGT.sz3 rfl (by omega)) ?_
  refine w_val (v := .int .i64 (((Cm.sizes ((av % (8#8)).toNat)) : Nat) : Int)) (y_ld (ex (pt b_sizes ((av % (8#8)).toNat))) CcmLawGT.sc3 (r_b_sizes.val (by omega) rfl)) ?_
  refine w_mks (m := (Cm.sizes ((av % (8#8)).toNat))) (bytes := 1) (zv := U8 (0#8)) ei ei (by omega) (by omega) Try.underlying54 (by kernel_rfl) rfl (by omega) (by omega) ?_
  intro b_28 w11 hbe_b_28 r_b_28 hb12
  have ne_b_b_b_28 : b_b ≠ b_28 := by have := r_b_b.lt; omega
  have ne_b_sizes_b_28 : b_sizes ≠ b_28 := by have := r_b_sizes.lt; omega
  have ge_b_28 : w0.heap.size ≤ b_28 := by have := hk.size; omega
  clear hbe_b_28
  replace r_b_b := r_b_b.step hb12
  replace r_b_sizes := r_b_sizes.step hb12
  replace hk := thenB hk hb12
  refine w_val (y_str (l := Cm.gz av) el (by exact List.length_replicate) Try.underlying54 Try.underlying5 Try.underlying9 (fun j hj => (r_b_28.val (by omega) (by exact congrArg U8 (gb_rep _ _).symm)))) ?_
  refine w_val (v := pt b_b 2) (y_off (y_fa (ex (pt b_b 0)) (CcmLawGT.fa49_2 _ _)) (by first | rfl | omega)) ?_
  refine w_st (v := .string (str (Cm.gz av))) (ex (pt b_b 2)) es rfl rfl CcmLawGT.sz9 r_b_b (by omega) ?_
  clear r_b_b; intro w13 r_b_b hg14 _
  replace r_b_sizes := r_b_sizes.stepG hg14 (by omega)
  replace r_b_28 := r_b_28.stepG hg14 (by omega)
  replace hk := thenG hk hg14 (by omega)
  refine nt ?_
  refine sr ?_
  refine w_mv e8 ?_
  refine w_val (y_bin e8 (evc (U8 (8#8))) (rem8 (by decide))) ?_
  refine w_val (y_ia1z (i := ((tv % (8#8)).toNat)) (ex (pt b_sizes 0)) (ex (.int .u8 ((tv % (8#8)).toNat : Int))) Try.underlying53 CcmLawGT.sz3 rfl (by omega)) ?_
  refine w_val (v := .int .i64 (((Cm.sizes ((tv % (8#8)).toNat)) : Nat) : Int)) (y_ld (ex (pt b_sizes ((tv % (8#8)).toNat))) CcmLawGT.sc3 (r_b_sizes.val (by omega) rfl)) ?_
  refine w_mks (m := (Cm.sizes ((tv % (8#8)).toNat))) (bytes := 1) (zv := U8 (0#8)) ei ei (by omega) (by omega) Try.underlying54 (by kernel_rfl) rfl (by omega) (by omega) ?_
  intro b_35 w15 hbe_b_35 r_b_35 hb16
  have ne_b_b_b_35 : b_b ≠ b_35 := by have := r_b_b.lt; omega
  have ne_b_sizes_b_35 : b_sizes ≠ b_35 := by have := r_b_sizes.lt; omega
  have ne_b_28_b_35 : b_28 ≠ b_35 := by have := r_b_28.lt; omega
  have ge_b_35 : w0.heap.size ≤ b_35 := by have := hk.size; omega
  clear hbe_b_35
  replace r_b_b := r_b_b.step hb16
  replace r_b_sizes := r_b_sizes.step hb16
  replace r_b_28 := r_b_28.step hb16
  replace hk := thenB hk hb16
  refine w_val (y_str (l := Cm.gz tv) el (by exact List.length_replicate) Try.underlying54 Try.underlying5 Try.underlying9 (fun j hj => (r_b_35.val (by omega) (by exact congrArg U8 (gb_rep _ _).symm)))) ?_
  refine w_as es ?_
  refine nt ?_
  refine sr ?_
  refine w_val (v := pt b_b 0) (y_off (y_fa (ex (pt b_b 0)) (CcmLawGT.fa49_0 _ _)) (by first | rfl | omega)) ?_
  refine w_val (v := .string (str key)) (y_ld (ex (pt b_b 0)) CcmLawGT.sc9 (r_b_b.val (by omega) ((if_neg (by omega)).trans (etv (if_pos (by omega)))))) ?_
  refine w_val (v := pt b_b 1) (y_off (y_fa (ex (pt b_b 0)) (CcmLawGT.fa49_1 _ _)) (by first | rfl | omega)) ?_
  refine w_val (v := .string (str nonce)) (y_ld (ex (pt b_b 1)) CcmLawGT.sc9 (r_b_b.val (by omega) ((if_neg (by omega)).trans ((if_neg (by omega)).trans (etv (if_pos (by omega))))))) ?_
  refine w_val (v := pt b_b 2) (y_off (y_fa (ex (pt b_b 0)) (CcmLawGT.fa49_2 _ _)) (by first | rfl | omega)) ?_
  refine w_val (v := .string (str (Cm.gz av))) (y_ld (ex (pt b_b 2)) CcmLawGT.sc9 (r_b_b.val (by omega) (if_pos rfl))) ?_
  refine w_mv es ?_
  refine w_val (v := pt b_b 3) (y_off (y_fa (ex (pt b_b 0)) (CcmLawGT.fa49_3 _ _)) (by first | rfl | omega)) ?_
  refine w_val (v := .int .i64 size) (y_ld (ex (pt b_b 3)) CcmLawGT.sc3 (r_b_b.val (by omega) ((if_neg (by omega)).trans ((if_neg (by omega)).trans ((if_neg (by omega)).trans ((if_neg (by omega)).trans (by first | with_reducible rfl | (with_reducible congr 1 <;> omega) | (with_reducible congr 2 <;> omega) | (with_reducible congr 3 <;> omega) | rfl))))))) ?_
  refine w_call (Try.func45) (by kernel_rfl) rfl (m5 es es es es ei) (cmSeal_n key nonce (Cm.gz av) size hok hn (Cm.gz tv) w15) ?_
  rintro _ w17 ⟨rfl, hb18⟩
  refine ⟨_, rfl, ?_⟩
  replace r_b_b := r_b_b.step hb18
  replace r_b_sizes := r_b_sizes.step hb18
  replace r_b_28 := r_b_28.step hb18
  replace r_b_35 := r_b_35.step hb18
  replace hk := thenB hk hb18
  refine w_mv (ex (.tuple #[.string (str ([] : List (BitVec 8))), .int .i64 4])) ?_
  refine w_val ye ?_
  refine w_val ye ?_
  refine w_as es ?_
  refine w_as ei ?_
  refine nt ?_
  refine sr ?_
  refine w_val (v := pt b_b 0) (y_off (y_fa (ex (pt b_b 0)) (CcmLawGT.fa49_0 _ _)) (by first | rfl | omega)) ?_
  refine w_val (v := .string (str key)) (y_ld (ex (pt b_b 0)) CcmLawGT.sc9 (r_b_b.val (by omega) ((if_neg (by omega)).trans (etv (if_pos (by omega)))))) ?_
  refine w_val (v := pt b_b 1) (y_off (y_fa (ex (pt b_b 0)) (CcmLawGT.fa49_1 _ _)) (by first | rfl | omega)) ?_
  refine w_val (v := .string (str nonce)) (y_ld (ex (pt b_b 1)) CcmLawGT.sc9 (r_b_b.val (by omega) ((if_neg (by omega)).trans ((if_neg (by omega)).trans (etv (if_pos (by omega))))))) ?_
  refine w_val (v := pt b_b 2) (y_off (y_fa (ex (pt b_b 0)) (CcmLawGT.fa49_2 _ _)) (by first | rfl | omega)) ?_
  refine w_val (v := .string (str (Cm.gz av))) (y_ld (ex (pt b_b 2)) CcmLawGT.sc9 (r_b_b.val (by omega) (if_pos rfl))) ?_
  refine w_mv es ?_
  refine w_val (v := pt b_b 3) (y_off (y_fa (ex (pt b_b 0)) (CcmLawGT.fa49_3 _ _)) (by first | rfl | omega)) ?_
  refine w_val (v := .int .i64 size) (y_ld (ex (pt b_b 3)) CcmLawGT.sc3 (r_b_b.val (by omega) ((if_neg (by omega)).trans ((if_neg (by omega)).trans ((if_neg (by omega)).trans ((if_neg (by omega)).trans (by first | with_reducible rfl | (with_reducible congr 1 <;> omega) | (with_reducible congr 2 <;> omega) | (with_reducible congr 3 <;> omega) | rfl))))))) ?_
  refine w_call (Try.func46) (by kernel_rfl) rfl (m5 es es es es ei) (cmRefSeal_n key nonce (Cm.gz av) size hok hn (Cm.gz tv) w17) ?_
  rintro _ w19 ⟨rfl, hb20⟩
  refine ⟨_, rfl, ?_⟩
  replace r_b_b := r_b_b.step hb20
  replace r_b_sizes := r_b_sizes.step hb20
  replace r_b_28 := r_b_28.step hb20
  replace r_b_35 := r_b_35.step hb20
  replace hk := thenB hk hb20
  refine w_mv (ex (.tuple #[.string (str ([] : List (BitVec 8))), .int .i64 4])) ?_
  refine w_val ye ?_
  refine w_val ye ?_
  refine w_as es ?_
  refine w_as ei ?_
  refine nt ?_
  refine sr ?_
  refine w_mv es ?_
  refine w_mv es ?_
  refine w_val (y_bin es es b_eqs_same) ?_
  refine w_mv eb ?_
  refine w_val_g (v := .int .i64 4) (wy rfl rfl eb) (y_mv ei) ?_
  refine w_val_g (v := .int .i64 4) (wy rfl rfl eb) (y_mv ei) ?_
  refine w_val_g (wy rfl rfl eb) (y_bin ei ei b_eql) ?_
  refine w_val (y_pick_t eb eb) ?_
  refine w_as eb ?_
  refine nt ?_
  refine wp_ret ?_
  refine fin_ret1 rfl eb ?_
  exact ⟨rfl, hk⟩
 ·skip
  with_reducible refine w_skip ?_ ?_
  exact wn rfl rfl (eb (df hc9))
  with_reducible refine w_skip ?_ ?_
  exact wn rfl rfl (eb (df hc9))
  with_reducible refine w_skip ?_ ?_
  exact wn rfl rfl (eb (df hc9))
  refine w_val (y_pick_f (eb (df hc9)) Ev.c) ?_
  refine nt ?_
  refine c_ff eb ?_
  refine wp_skip ?_
  refine then_n ?_
  refine sr ?_
  refine w_mv e8 ?_
  refine w_val (y_bin e8 (evc (U8 (8#8))) (rem8 (by decide))) ?_
  refine w_val (y_ia1z (i := ((av % (8#8)).toNat)) (ex (pt b_sizes 0)) (ex (.int .u8 ((av % (8#8)).toNat : Int))) Try.underlying53 CcmLawGT.sz3 rfl (by omega)) ?_
  refine w_val (v := .int .i64 (((Cm.sizes ((av % (8#8)).toNat)) : Nat) : Int)) (y_ld (ex (pt b_sizes ((av % (8#8)).toNat))) CcmLawGT.sc3 (r_b_sizes.val (by omega) rfl)) ?_
  refine w_mks (m := (Cm.sizes ((av % (8#8)).toNat))) (bytes := 1) (zv := U8 (0#8)) ei ei (by omega) (by omega) Try.underlying54 (by kernel_rfl) rfl (by omega) (by omega) ?_
  intro b_28 w21 hbe_b_28 r_b_28 hb22
  have ne_b_b_b_28 : b_b ≠ b_28 := by have := r_b_b.lt; omega
  have ne_b_sizes_b_28 : b_sizes ≠ b_28 := by have := r_b_sizes.lt; omega
  have ge_b_28 : w0.heap.size ≤ b_28 := by have := hk.size; omega
  clear hbe_b_28
  replace r_b_b := r_b_b.step hb22
  replace r_b_sizes := r_b_sizes.step hb22
  replace hk := thenB hk hb22
  refine w_val (y_str (l := Cm.gz av) el (by exact List.length_replicate) Try.underlying54 Try.underlying5 Try.underlying9 (fun j hj => (r_b_28.val (by omega) (by exact congrArg U8 (gb_rep _ _).symm)))) ?_
  refine w_val (v := pt b_b 2) (y_off (y_fa (ex (pt b_b 0)) (CcmLawGT.fa49_2 _ _)) (by first | rfl | omega)) ?_
  refine w_st (v := .string (str (Cm.gz av))) (ex (pt b_b 2)) es rfl rfl CcmLawGT.sz9 r_b_b (by omega) ?_
  clear r_b_b; intro w23 r_b_b hg24 _
  replace r_b_sizes := r_b_sizes.stepG hg24 (by omega)
  replace r_b_28 := r_b_28.stepG hg24 (by omega)
  replace hk := thenG hk hg24 (by omega)
  refine nt ?_
  refine sr ?_
  refine w_mv e8 ?_
  refine w_val (y_bin e8 (evc (U8 (8#8))) (rem8 (by decide))) ?_
  refine w_val (y_ia1z (i := ((tv % (8#8)).toNat)) (ex (pt b_sizes 0)) (ex (.int .u8 ((tv % (8#8)).toNat : Int))) Try.underlying53 CcmLawGT.sz3 rfl (by omega)) ?_
  refine w_val (v := .int .i64 (((Cm.sizes ((tv % (8#8)).toNat)) : Nat) : Int)) (y_ld (ex (pt b_sizes ((tv % (8#8)).toNat))) CcmLawGT.sc3 (r_b_sizes.val (by omega) rfl)) ?_
  refine w_mks (m := (Cm.sizes ((tv % (8#8)).toNat))) (bytes := 1) (zv := U8 (0#8)) ei ei (by omega) (by omega) Try.underlying54 (by kernel_rfl) rfl (by omega) (by omega) ?_
  intro b_35 w25 hbe_b_35 r_b_35 hb26
  have ne_b_b_b_35 : b_b ≠ b_35 := by have := r_b_b.lt; omega
  have ne_b_sizes_b_35 : b_sizes ≠ b_35 := by have := r_b_sizes.lt; omega
  have ne_b_28_b_35 : b_28 ≠ b_35 := by have := r_b_28.lt; omega
  have ge_b_35 : w0.heap.size ≤ b_35 := by have := hk.size; omega
  clear hbe_b_35
  replace r_b_b := r_b_b.step hb26
  replace r_b_sizes := r_b_sizes.step hb26
  replace r_b_28 := r_b_28.step hb26
  replace hk := thenB hk hb26
  refine w_val (y_str (l := Cm.gz tv) el (by exact List.length_replicate) Try.underlying54 Try.underlying5 Try.underlying9 (fun j hj => (r_b_35.val (by omega) (by exact congrArg U8 (gb_rep _ _).symm)))) ?_
  refine w_as es ?_
  refine nt ?_
  refine sr ?_
  refine w_val (v := pt b_b 0) (y_off (y_fa (ex (pt b_b 0)) (CcmLawGT.fa49_0 _ _)) (by first | rfl | omega)) ?_
  refine w_val (v := .string (str key)) (y_ld (ex (pt b_b 0)) CcmLawGT.sc9 (r_b_b.val (by omega) ((if_neg (by omega)).trans (etv (if_pos (by omega)))))) ?_
  refine w_val (v := pt b_b 1) (y_off (y_fa (ex (pt b_b 0)) (CcmLawGT.fa49_1 _ _)) (by first | rfl | omega)) ?_
  refine w_val (v := .string (str nonce)) (y_ld (ex (pt b_b 1)) CcmLawGT.sc9 (r_b_b.val (by omega) ((if_neg (by omega)).trans ((if_neg (by omega)).trans (etv (if_pos (by omega))))))) ?_
  refine w_val (v := pt b_b 2) (y_off (y_fa (ex (pt b_b 0)) (CcmLawGT.fa49_2 _ _)) (by first | rfl | omega)) ?_
  refine w_val (v := .string (str (Cm.gz av))) (y_ld (ex (pt b_b 2)) CcmLawGT.sc9 (r_b_b.val (by omega) (if_pos rfl))) ?_
  refine w_mv es ?_
  refine w_val (v := pt b_b 3) (y_off (y_fa (ex (pt b_b 0)) (CcmLawGT.fa49_3 _ _)) (by first | rfl | omega)) ?_
  refine w_val (v := .int .i64 size) (y_ld (ex (pt b_b 3)) CcmLawGT.sc3 (r_b_b.val (by omega) ((if_neg (by omega)).trans ((if_neg (by omega)).trans ((if_neg (by omega)).trans ((if_neg (by omega)).trans (by first | with_reducible rfl | (with_reducible congr 1 <;> omega) | (with_reducible congr 2 <;> omega) | (with_reducible congr 3 <;> omega) | rfl))))))) ?_
  refine w_call (Try.func45) (by kernel_rfl) rfl (m5 es es es es ei) (cmSeal_n key nonce (Cm.gz av) size hok hn (Cm.gz tv) w25) ?_
  rintro _ w27 ⟨rfl, hb28⟩
  refine ⟨_, rfl, ?_⟩
  replace r_b_b := r_b_b.step hb28
  replace r_b_sizes := r_b_sizes.step hb28
  replace r_b_28 := r_b_28.step hb28
  replace r_b_35 := r_b_35.step hb28
  replace hk := thenB hk hb28
  refine w_mv (ex (.tuple #[.string (str ([] : List (BitVec 8))), .int .i64 4])) ?_
  refine w_val ye ?_
  refine w_val ye ?_
  refine w_as es ?_
  refine w_as ei ?_
  refine nt ?_
  refine sr ?_
  refine w_val (v := pt b_b 0) (y_off (y_fa (ex (pt b_b 0)) (CcmLawGT.fa49_0 _ _)) (by first | rfl | omega)) ?_
  refine w_val (v := .string (str key)) (y_ld (ex (pt b_b 0)) CcmLawGT.sc9 (r_b_b.val (by omega) ((if_neg (by omega)).trans (etv (if_pos (by omega)))))) ?_
  refine w_val (v := pt b_b 1) (y_off (y_fa (ex (pt b_b 0)) (CcmLawGT.fa49_1 _ _)) (by first | rfl | omega)) ?_
  refine w_val (v := .string (str nonce)) (y_ld (ex (pt b_b 1)) CcmLawGT.sc9 (r_b_b.val (by omega) ((if_neg (by omega)).trans ((if_neg (by omega)).trans (etv (if_pos (by omega))))))) ?_
  refine w_val (v := pt b_b 2) (y_off (y_fa (ex (pt b_b 0)) (CcmLawGT.fa49_2 _ _)) (by first | rfl | omega)) ?_
  refine w_val (v := .string (str (Cm.gz av))) (y_ld (ex (pt b_b 2)) CcmLawGT.sc9 (r_b_b.val (by omega) (if_pos rfl))) ?_
  refine w_mv es ?_
  refine w_val (v := pt b_b 3) (y_off (y_fa (ex (pt b_b 0)) (CcmLawGT.fa49_3 _ _)) (by first | rfl | omega)) ?_
  refine w_val (v := .int .i64 size) (y_ld (ex (pt b_b 3)) CcmLawGT.sc3 (r_b_b.val (by omega) ((if_neg (by omega)).trans ((if_neg (by omega)).trans ((if_neg (by omega)).trans ((if_neg (by omega)).trans (by first | with_reducible rfl | (with_reducible congr 1 <;> omega) | (with_reducible congr 2 <;> omega) | (with_reducible congr 3 <;> omega) | rfl))))))) ?_
  refine w_call (Try.func46) (by kernel_rfl) rfl (m5 es es es es ei) (cmRefSeal_n key nonce (Cm.gz av) size hok hn (Cm.gz tv) w27) ?_
  rintro _ w29 ⟨rfl, hb30⟩
  refine ⟨_, rfl, ?_⟩
  replace r_b_b := r_b_b.step hb30
  replace r_b_sizes := r_b_sizes.step hb30
  replace r_b_28 := r_b_28.step hb30
  replace r_b_35 := r_b_35.step hb30
  replace hk := thenB hk hb30
  refine w_mv (ex (.tuple #[.string (str ([] : List (BitVec 8))), .int .i64 4])) ?_
  refine w_val ye ?_
  refine w_val ye ?_
  refine w_as es ?_
  refine w_as ei ?_
  refine nt ?_
  refine sr ?_
  refine w_mv es ?_
  refine w_mv es ?_
  refine w_val (y_bin es es b_eqs_same) ?_
  refine w_mv eb ?_
  refine w_val_g (v := .int .i64 4) (wy rfl rfl eb) (y_mv ei) ?_
  refine w_val_g (v := .int .i64 4) (wy rfl rfl eb) (y_mv ei) ?_
  refine w_val_g (wy rfl rfl eb) (y_bin ei ei b_eql) ?_
  refine w_val (y_pick_t eb eb) ?_
  refine w_as eb ?_
  refine nt ?_
  refine wp_ret ?_
  refine fin_ret1 rfl eb ?_
  exact ⟨rfl, hk⟩

theorem ccmGreatY_t (key nonce ad : List (BitVec 8)) (av tv : BitVec 8) (hx : ¬ ((0#8).toNat < (av % 8#8).toNat ∧ (0#8).toNat < (tv % 8#8).toNat)) (size : Int) (hok : Aes.okKey key.length) (hn : 7 ≤ nonce.length ∧ nonce.length ≤ 13) (ht : ¬ (4 ≤ size ∧ size ≤ 16 ∧ size % 2 = 0)) (w0 : World) : Calls Try.prog 16 #[.agg (arr 4 (fun j => if j < 1 then .string (str key) else if j < 2 then .string (str nonce) else if j < 3 then .string (str ad) else .int .i64 size)), U8 av, U8 tv] w0 fun e w' => e = .returned (.bool true) ∧ Below w0.heap.size w0 w' := by
 have hm8 : ∀ x : BitVec 8, (x % 8#8).toNat < 8 := fun x => by rw [BitVec.toNat_umod]; exact Nat.mod_lt _ (by decide)
 have h8a := hm8 av
 have h8t := hm8 tv
 have h80 := hm8 0#8
 have hsa := Cm.sizes_le ((av % 8#8).toNat)
 have hst := Cm.sizes_le ((tv % 8#8).toNat)
 refine enter (n := 71) Try.func16 rfl rfl rfl ?_
 have hk : Below w0.heap.size w0 w0 := Below.refl _ _
 refine sr ?_
 refine w_box (m := 4) (F := fun j => if j < 1 then .string (str key) else if j < 2 then .string (str nonce) else if j < 3 then .string (str ad) else .int .i64 size) ea rfl ?_
 intro b_b w1 hbe_b_b r_b_b hb2
 have ge_b_b : w0.heap.size ≤ b_b := by have := hk.size; omega
 clear hbe_b_b
 replace hk := thenB hk hb2
 refine w_as Ev.c ?_
 refine nt ?_
 refine wp_seq ?_
 refine sr ?_
 refine w_call (Try.func43) (by kernel_rfl) rfl m0 (ccmWakes_c  w1) ?_
 rintro _ w3 ⟨rfl, hb4⟩
 refine ⟨_, rfl, ?_⟩
 replace r_b_b := r_b_b.step hb4
 replace hk := thenB hk hb4
 refine w_val (y_not eb) ?_
 refine nt ?_
 refine c_ff eb ?_
 refine wp_skip ?_
 refine then_n ?_
 refine sr ?_
 refine w_val (v := .agg (arr 8 (fun j => .int .i64 (((Cm.sizes (j)) : Nat) : Int)))) (y_build (vs := #[(0, .int .i64 0), (1, .int .i64 65279), (2, .int .i64 65280), (3, .int .i64 65281), (4, .int .i64 65535), (5, .int .i64 65536), (6, .int .i64 70000), (7, .int .i64 70001)]) (mp_cons Ev.c (mp_cons Ev.c (mp_cons Ev.c (mp_cons Ev.c (mp_cons Ev.c (mp_cons Ev.c (mp_cons Ev.c (mp_cons Ev.c mp0)))))))) (fun w => by kernel_rfl)) ?_
 refine w_alloc (m := 8) (F := fun j => .int .i64 0) (by kernel_rfl) ?_
 intro b_sizes w5 hbe_b_sizes r_b_sizes hb6
 have ne_b_b_b_sizes : b_b ≠ b_sizes := by have := r_b_b.lt; omega
 have ge_b_sizes : w0.heap.size ≤ b_sizes := by have := hk.size; omega
 clear hbe_b_sizes
 replace r_b_b := r_b_b.step hb6
 replace hk := thenB hk hb6
 refine w_sta (k := 8) (G := fun j => .int .i64 (((Cm.sizes (j)) : Nat) : Int)) (ex (pt b_sizes 0)) ea oc CcmLawGT.sz53 r_b_sizes (by omega) ?_
 clear r_b_sizes; intro w7 r_b_sizes hg8 _
 replace r_b_sizes := r_b_sizes.congr (g := fun j => .int .i64 (((Cm.sizes (j)) : Nat) : Int)) (fun j hj => by rw [if_pos ⟨Nat.zero_le _, by omega⟩]; first | rfl | (simp only [Nat.sub_zero]))
 replace r_b_b := r_b_b.stepG hg8 (by omega)
 replace hk := thenG hk hg8 (by omega)
 refine nt ?_
 refine wp_seq ?_
 refine sr ?_
 refine w_mv e8 ?_
 refine w_val (y_bin e8 (evc (U8 (8#8))) (rem8 (by decide))) ?_
 refine w_val (y_bin e8 (evc (U8 (0#8))) gtr8) ?_
 refine w_mv eb ?_
 by_cases hc9 : (0#8).toNat < (av % (8#8)).toNat
 ·skip
  refine w_val_g (v := U8 tv) (wy rfl rfl (eb (dt hc9))) (y_mv e8) ?_
  refine w_val_g (wy rfl rfl (eb (dt hc9))) (y_bin e8 (evc (U8 (8#8))) (rem8 (by decide))) ?_
  refine w_val_g (wy rfl rfl (eb (dt hc9))) (y_bin e8 (evc (U8 (0#8))) gtr8) ?_
  refine w_val (y_pick_t (eb (dt hc9)) eb) ?_
  refine nt ?_
  have hc10 : ¬ ((0#8).toNat < (tv % (8#8)).toNat) := by exact fun h => hx ⟨by assumption, h⟩
  refine c_f (p := (0#8).toNat < (tv % (8#8)).toNat) eb hc10 ?_
  refine wp_skip ?_
  refine then_n ?_
  refine sr ?_
  refine w_mv e8 ?_
  refine w_val (y_bin e8 (evc (U8 (8#8))) (rem8 (by decide))) ?_
  refine w_val (y_ia1z (i := ((av % (8#8)).toNat)) (ex (pt b_sizes 0)) (ex (.int .u8 ((av % (8#8)).toNat : Int))) Try.underlying53 CcmLawGT.sz3 rfl (by omega)) ?_
  refine w_val (v := .int .i64 (((Cm.sizes ((av % (8#8)).toNat)) : Nat) : Int)) (y_ld (ex (pt b_sizes ((av % (8#8)).toNat))) CcmLawGT.sc3 (r_b_sizes.val (by omega) rfl)) ?_
  refine w_mks (m := (Cm.sizes ((av % (8#8)).toNat))) (bytes := 1) (zv := U8 (0#8)) ei ei (by omega) (by omega) Try.underlying54 (by kernel_rfl) rfl (by omega) (by omega) ?_
  intro b_28 w11 hbe_b_28 r_b_28 hb12
  have ne_b_b_b_28 : b_b ≠ b_28 := by have := r_b_b.lt; omega
  have ne_b_sizes_b_28 : b_sizes ≠ b_28 := by have := r_b_sizes.lt; omega
  have ge_b_28 : w0.heap.size ≤ b_28 := by have := hk.size; omega
  clear hbe_b_28
  replace r_b_b := r_b_b.step hb12
  replace r_b_sizes := r_b_sizes.step hb12
  replace hk := thenB hk hb12
  refine w_val (y_str (l := Cm.gz av) el (by exact List.length_replicate) Try.underlying54 Try.underlying5 Try.underlying9 (fun j hj => (r_b_28.val (by omega) (by exact congrArg U8 (gb_rep _ _).symm)))) ?_
  refine w_val (v := pt b_b 2) (y_off (y_fa (ex (pt b_b 0)) (CcmLawGT.fa49_2 _ _)) (by first | rfl | omega)) ?_
  refine w_st (v := .string (str (Cm.gz av))) (ex (pt b_b 2)) es rfl rfl CcmLawGT.sz9 r_b_b (by omega) ?_
  clear r_b_b; intro w13 r_b_b hg14 _
  replace r_b_sizes := r_b_sizes.stepG hg14 (by omega)
  replace r_b_28 := r_b_28.stepG hg14 (by omega)
  replace hk := thenG hk hg14 (by omega)
  refine nt ?_
  refine sr ?_
  refine w_mv e8 ?_
  refine w_val (y_bin e8 (evc (U8 (8#8))) (rem8 (by decide))) ?_
  refine w_val (y_ia1z (i := ((tv % (8#8)).toNat)) (ex (pt b_sizes 0)) (ex (.int .u8 ((tv % (8#8)).toNat : Int))) Try.underlying53 CcmLawGT.sz3 rfl (by omega)) ?_
  refine w_val (v := .int .i64 (((Cm.sizes ((tv % (8#8)).toNat)) : Nat) : Int)) (y_ld (ex (pt b_sizes ((tv % (8#8)).toNat))) CcmLawGT.sc3 (r_b_sizes.val (by omega) rfl)) ?_
  refine w_mks (m := (Cm.sizes ((tv % (8#8)).toNat))) (bytes := 1) (zv := U8 (0#8)) ei ei (by omega) (by omega) Try.underlying54 (by kernel_rfl) rfl (by omega) (by omega) ?_
  intro b_35 w15 hbe_b_35 r_b_35 hb16
  have ne_b_b_b_35 : b_b ≠ b_35 := by have := r_b_b.lt; omega
  have ne_b_sizes_b_35 : b_sizes ≠ b_35 := by have := r_b_sizes.lt; omega
  have ne_b_28_b_35 : b_28 ≠ b_35 := by have := r_b_28.lt; omega
  have ge_b_35 : w0.heap.size ≤ b_35 := by have := hk.size; omega
  clear hbe_b_35
  replace r_b_b := r_b_b.step hb16
  replace r_b_sizes := r_b_sizes.step hb16
  replace r_b_28 := r_b_28.step hb16
  replace hk := thenB hk hb16
  refine w_val (y_str (l := Cm.gz tv) el (by exact List.length_replicate) Try.underlying54 Try.underlying5 Try.underlying9 (fun j hj => (r_b_35.val (by omega) (by exact congrArg U8 (gb_rep _ _).symm)))) ?_
  refine w_as es ?_
  refine nt ?_
  refine sr ?_
  refine w_val (v := pt b_b 0) (y_off (y_fa (ex (pt b_b 0)) (CcmLawGT.fa49_0 _ _)) (by first | rfl | omega)) ?_
  refine w_val (v := .string (str key)) (y_ld (ex (pt b_b 0)) CcmLawGT.sc9 (r_b_b.val (by omega) ((if_neg (by omega)).trans (etv (if_pos (by omega)))))) ?_
  refine w_val (v := pt b_b 1) (y_off (y_fa (ex (pt b_b 0)) (CcmLawGT.fa49_1 _ _)) (by first | rfl | omega)) ?_
  refine w_val (v := .string (str nonce)) (y_ld (ex (pt b_b 1)) CcmLawGT.sc9 (r_b_b.val (by omega) ((if_neg (by omega)).trans ((if_neg (by omega)).trans (etv (if_pos (by omega))))))) ?_
  refine w_val (v := pt b_b 2) (y_off (y_fa (ex (pt b_b 0)) (CcmLawGT.fa49_2 _ _)) (by first | rfl | omega)) ?_
  refine w_val (v := .string (str (Cm.gz av))) (y_ld (ex (pt b_b 2)) CcmLawGT.sc9 (r_b_b.val (by omega) (if_pos rfl))) ?_
  refine w_mv es ?_
  refine w_val (v := pt b_b 3) (y_off (y_fa (ex (pt b_b 0)) (CcmLawGT.fa49_3 _ _)) (by first | rfl | omega)) ?_
  refine w_val (v := .int .i64 size) (y_ld (ex (pt b_b 3)) CcmLawGT.sc3 (r_b_b.val (by omega) ((if_neg (by omega)).trans ((if_neg (by omega)).trans ((if_neg (by omega)).trans ((if_neg (by omega)).trans (by first | with_reducible rfl | (with_reducible congr 1 <;> omega) | (with_reducible congr 2 <;> omega) | (with_reducible congr 3 <;> omega) | rfl))))))) ?_
  refine w_call (Try.func45) (by kernel_rfl) rfl (m5 es es es es ei) (cmSeal_t key nonce (Cm.gz av) size hok hn ht (Cm.gz tv) w15) ?_
  rintro _ w17 ⟨rfl, hb18⟩
  refine ⟨_, rfl, ?_⟩
  replace r_b_b := r_b_b.step hb18
  replace r_b_sizes := r_b_sizes.step hb18
  replace r_b_28 := r_b_28.step hb18
  replace r_b_35 := r_b_35.step hb18
  replace hk := thenB hk hb18
  refine w_mv (ex (.tuple #[.string (str ([] : List (BitVec 8))), .int .i64 5])) ?_
  refine w_val ye ?_
  refine w_val ye ?_
  refine w_as es ?_
  refine w_as ei ?_
  refine nt ?_
  refine sr ?_
  refine w_val (v := pt b_b 0) (y_off (y_fa (ex (pt b_b 0)) (CcmLawGT.fa49_0 _ _)) (by first | rfl | omega)) ?_
  refine w_val (v := .string (str key)) (y_ld (ex (pt b_b 0)) CcmLawGT.sc9 (r_b_b.val (by omega) ((if_neg (by omega)).trans (etv (if_pos (by omega)))))) ?_
  refine w_val (v := pt b_b 1) (y_off (y_fa (ex (pt b_b 0)) (CcmLawGT.fa49_1 _ _)) (by first | rfl | omega)) ?_
  refine w_val (v := .string (str nonce)) (y_ld (ex (pt b_b 1)) CcmLawGT.sc9 (r_b_b.val (by omega) ((if_neg (by omega)).trans ((if_neg (by omega)).trans (etv (if_pos (by omega))))))) ?_
  refine w_val (v := pt b_b 2) (y_off (y_fa (ex (pt b_b 0)) (CcmLawGT.fa49_2 _ _)) (by first | rfl | omega)) ?_
  refine w_val (v := .string (str (Cm.gz av))) (y_ld (ex (pt b_b 2)) CcmLawGT.sc9 (r_b_b.val (by omega) (if_pos rfl))) ?_
  refine w_mv es ?_
  refine w_val (v := pt b_b 3) (y_off (y_fa (ex (pt b_b 0)) (CcmLawGT.fa49_3 _ _)) (by first | rfl | omega)) ?_
  refine w_val (v := .int .i64 size) (y_ld (ex (pt b_b 3)) CcmLawGT.sc3 (r_b_b.val (by omega) ((if_neg (by omega)).trans ((if_neg (by omega)).trans ((if_neg (by omega)).trans ((if_neg (by omega)).trans (by first | with_reducible rfl | (with_reducible congr 1 <;> omega) | (with_reducible congr 2 <;> omega) | (with_reducible congr 3 <;> omega) | rfl))))))) ?_
  refine w_call (Try.func46) (by kernel_rfl) rfl (m5 es es es es ei) (cmRefSeal_t key nonce (Cm.gz av) size hok hn ht (Cm.gz tv) w17) ?_
  rintro _ w19 ⟨rfl, hb20⟩
  refine ⟨_, rfl, ?_⟩
  replace r_b_b := r_b_b.step hb20
  replace r_b_sizes := r_b_sizes.step hb20
  replace r_b_28 := r_b_28.step hb20
  replace r_b_35 := r_b_35.step hb20
  replace hk := thenB hk hb20
  refine w_mv (ex (.tuple #[.string (str ([] : List (BitVec 8))), .int .i64 5])) ?_
  refine w_val ye ?_
  refine w_val ye ?_
  refine w_as es ?_
  refine w_as ei ?_
  refine nt ?_
  refine sr ?_
  refine w_mv es ?_
  refine w_mv es ?_
  refine w_val (y_bin es es b_eqs_same) ?_
  refine w_mv eb ?_
  refine w_val_g (v := .int .i64 5) (wy rfl rfl eb) (y_mv ei) ?_
  refine w_val_g (v := .int .i64 5) (wy rfl rfl eb) (y_mv ei) ?_
  refine w_val_g (wy rfl rfl eb) (y_bin ei ei b_eql) ?_
  refine w_val (y_pick_t eb eb) ?_
  refine w_as eb ?_
  refine nt ?_
  refine wp_ret ?_
  refine fin_ret1 rfl eb ?_
  exact ⟨rfl, hk⟩
 ·skip
  with_reducible refine w_skip ?_ ?_
  exact wn rfl rfl (eb (df hc9))
  with_reducible refine w_skip ?_ ?_
  exact wn rfl rfl (eb (df hc9))
  with_reducible refine w_skip ?_ ?_
  exact wn rfl rfl (eb (df hc9))
  refine w_val (y_pick_f (eb (df hc9)) Ev.c) ?_
  refine nt ?_
  refine c_ff eb ?_
  refine wp_skip ?_
  refine then_n ?_
  refine sr ?_
  refine w_mv e8 ?_
  refine w_val (y_bin e8 (evc (U8 (8#8))) (rem8 (by decide))) ?_
  refine w_val (y_ia1z (i := ((av % (8#8)).toNat)) (ex (pt b_sizes 0)) (ex (.int .u8 ((av % (8#8)).toNat : Int))) Try.underlying53 CcmLawGT.sz3 rfl (by omega)) ?_
  refine w_val (v := .int .i64 (((Cm.sizes ((av % (8#8)).toNat)) : Nat) : Int)) (y_ld (ex (pt b_sizes ((av % (8#8)).toNat))) CcmLawGT.sc3 (r_b_sizes.val (by omega) rfl)) ?_
  refine w_mks (m := (Cm.sizes ((av % (8#8)).toNat))) (bytes := 1) (zv := U8 (0#8)) ei ei (by omega) (by omega) Try.underlying54 (by kernel_rfl) rfl (by omega) (by omega) ?_
  intro b_28 w21 hbe_b_28 r_b_28 hb22
  have ne_b_b_b_28 : b_b ≠ b_28 := by have := r_b_b.lt; omega
  have ne_b_sizes_b_28 : b_sizes ≠ b_28 := by have := r_b_sizes.lt; omega
  have ge_b_28 : w0.heap.size ≤ b_28 := by have := hk.size; omega
  clear hbe_b_28
  replace r_b_b := r_b_b.step hb22
  replace r_b_sizes := r_b_sizes.step hb22
  replace hk := thenB hk hb22
  refine w_val (y_str (l := Cm.gz av) el (by exact List.length_replicate) Try.underlying54 Try.underlying5 Try.underlying9 (fun j hj => (r_b_28.val (by omega) (by exact congrArg U8 (gb_rep _ _).symm)))) ?_
  refine w_val (v := pt b_b 2) (y_off (y_fa (ex (pt b_b 0)) (CcmLawGT.fa49_2 _ _)) (by first | rfl | omega)) ?_
  refine w_st (v := .string (str (Cm.gz av))) (ex (pt b_b 2)) es rfl rfl CcmLawGT.sz9 r_b_b (by omega) ?_
  clear r_b_b; intro w23 r_b_b hg24 _
  replace r_b_sizes := r_b_sizes.stepG hg24 (by omega)
  replace r_b_28 := r_b_28.stepG hg24 (by omega)
  replace hk := thenG hk hg24 (by omega)
  refine nt ?_
  refine sr ?_
  refine w_mv e8 ?_
  refine w_val (y_bin e8 (evc (U8 (8#8))) (rem8 (by decide))) ?_
  refine w_val (y_ia1z (i := ((tv % (8#8)).toNat)) (ex (pt b_sizes 0)) (ex (.int .u8 ((tv % (8#8)).toNat : Int))) Try.underlying53 CcmLawGT.sz3 rfl (by omega)) ?_
  refine w_val (v := .int .i64 (((Cm.sizes ((tv % (8#8)).toNat)) : Nat) : Int)) (y_ld (ex (pt b_sizes ((tv % (8#8)).toNat))) CcmLawGT.sc3 (r_b_sizes.val (by omega) rfl)) ?_
  refine w_mks (m := (Cm.sizes ((tv % (8#8)).toNat))) (bytes := 1) (zv := U8 (0#8)) ei ei (by omega) (by omega) Try.underlying54 (by kernel_rfl) rfl (by omega) (by omega) ?_
  intro b_35 w25 hbe_b_35 r_b_35 hb26
  have ne_b_b_b_35 : b_b ≠ b_35 := by have := r_b_b.lt; omega
  have ne_b_sizes_b_35 : b_sizes ≠ b_35 := by have := r_b_sizes.lt; omega
  have ne_b_28_b_35 : b_28 ≠ b_35 := by have := r_b_28.lt; omega
  have ge_b_35 : w0.heap.size ≤ b_35 := by have := hk.size; omega
  clear hbe_b_35
  replace r_b_b := r_b_b.step hb26
  replace r_b_sizes := r_b_sizes.step hb26
  replace r_b_28 := r_b_28.step hb26
  replace hk := thenB hk hb26
  refine w_val (y_str (l := Cm.gz tv) el (by exact List.length_replicate) Try.underlying54 Try.underlying5 Try.underlying9 (fun j hj => (r_b_35.val (by omega) (by exact congrArg U8 (gb_rep _ _).symm)))) ?_
  refine w_as es ?_
  refine nt ?_
  refine sr ?_
  refine w_val (v := pt b_b 0) (y_off (y_fa (ex (pt b_b 0)) (CcmLawGT.fa49_0 _ _)) (by first | rfl | omega)) ?_
  refine w_val (v := .string (str key)) (y_ld (ex (pt b_b 0)) CcmLawGT.sc9 (r_b_b.val (by omega) ((if_neg (by omega)).trans (etv (if_pos (by omega)))))) ?_
  refine w_val (v := pt b_b 1) (y_off (y_fa (ex (pt b_b 0)) (CcmLawGT.fa49_1 _ _)) (by first | rfl | omega)) ?_
  refine w_val (v := .string (str nonce)) (y_ld (ex (pt b_b 1)) CcmLawGT.sc9 (r_b_b.val (by omega) ((if_neg (by omega)).trans ((if_neg (by omega)).trans (etv (if_pos (by omega))))))) ?_
  refine w_val (v := pt b_b 2) (y_off (y_fa (ex (pt b_b 0)) (CcmLawGT.fa49_2 _ _)) (by first | rfl | omega)) ?_
  refine w_val (v := .string (str (Cm.gz av))) (y_ld (ex (pt b_b 2)) CcmLawGT.sc9 (r_b_b.val (by omega) (if_pos rfl))) ?_
  refine w_mv es ?_
  refine w_val (v := pt b_b 3) (y_off (y_fa (ex (pt b_b 0)) (CcmLawGT.fa49_3 _ _)) (by first | rfl | omega)) ?_
  refine w_val (v := .int .i64 size) (y_ld (ex (pt b_b 3)) CcmLawGT.sc3 (r_b_b.val (by omega) ((if_neg (by omega)).trans ((if_neg (by omega)).trans ((if_neg (by omega)).trans ((if_neg (by omega)).trans (by first | with_reducible rfl | (with_reducible congr 1 <;> omega) | (with_reducible congr 2 <;> omega) | (with_reducible congr 3 <;> omega) | rfl))))))) ?_
  refine w_call (Try.func45) (by kernel_rfl) rfl (m5 es es es es ei) (cmSeal_t key nonce (Cm.gz av) size hok hn ht (Cm.gz tv) w25) ?_
  rintro _ w27 ⟨rfl, hb28⟩
  refine ⟨_, rfl, ?_⟩
  replace r_b_b := r_b_b.step hb28
  replace r_b_sizes := r_b_sizes.step hb28
  replace r_b_28 := r_b_28.step hb28
  replace r_b_35 := r_b_35.step hb28
  replace hk := thenB hk hb28
  refine w_mv (ex (.tuple #[.string (str ([] : List (BitVec 8))), .int .i64 5])) ?_
  refine w_val ye ?_
  refine w_val ye ?_
  refine w_as es ?_
  refine w_as ei ?_
  refine nt ?_
  refine sr ?_
  refine w_val (v := pt b_b 0) (y_off (y_fa (ex (pt b_b 0)) (CcmLawGT.fa49_0 _ _)) (by first | rfl | omega)) ?_
  refine w_val (v := .string (str key)) (y_ld (ex (pt b_b 0)) CcmLawGT.sc9 (r_b_b.val (by omega) ((if_neg (by omega)).trans (etv (if_pos (by omega)))))) ?_
  refine w_val (v := pt b_b 1) (y_off (y_fa (ex (pt b_b 0)) (CcmLawGT.fa49_1 _ _)) (by first | rfl | omega)) ?_
  refine w_val (v := .string (str nonce)) (y_ld (ex (pt b_b 1)) CcmLawGT.sc9 (r_b_b.val (by omega) ((if_neg (by omega)).trans ((if_neg (by omega)).trans (etv (if_pos (by omega))))))) ?_
  refine w_val (v := pt b_b 2) (y_off (y_fa (ex (pt b_b 0)) (CcmLawGT.fa49_2 _ _)) (by first | rfl | omega)) ?_
  refine w_val (v := .string (str (Cm.gz av))) (y_ld (ex (pt b_b 2)) CcmLawGT.sc9 (r_b_b.val (by omega) (if_pos rfl))) ?_
  refine w_mv es ?_
  refine w_val (v := pt b_b 3) (y_off (y_fa (ex (pt b_b 0)) (CcmLawGT.fa49_3 _ _)) (by first | rfl | omega)) ?_
  refine w_val (v := .int .i64 size) (y_ld (ex (pt b_b 3)) CcmLawGT.sc3 (r_b_b.val (by omega) ((if_neg (by omega)).trans ((if_neg (by omega)).trans ((if_neg (by omega)).trans ((if_neg (by omega)).trans (by first | with_reducible rfl | (with_reducible congr 1 <;> omega) | (with_reducible congr 2 <;> omega) | (with_reducible congr 3 <;> omega) | rfl))))))) ?_
  refine w_call (Try.func46) (by kernel_rfl) rfl (m5 es es es es ei) (cmRefSeal_t key nonce (Cm.gz av) size hok hn ht (Cm.gz tv) w27) ?_
  rintro _ w29 ⟨rfl, hb30⟩
  refine ⟨_, rfl, ?_⟩
  replace r_b_b := r_b_b.step hb30
  replace r_b_sizes := r_b_sizes.step hb30
  replace r_b_28 := r_b_28.step hb30
  replace r_b_35 := r_b_35.step hb30
  replace hk := thenB hk hb30
  refine w_mv (ex (.tuple #[.string (str ([] : List (BitVec 8))), .int .i64 5])) ?_
  refine w_val ye ?_
  refine w_val ye ?_
  refine w_as es ?_
  refine w_as ei ?_
  refine nt ?_
  refine sr ?_
  refine w_mv es ?_
  refine w_mv es ?_
  refine w_val (y_bin es es b_eqs_same) ?_
  refine w_mv eb ?_
  refine w_val_g (v := .int .i64 5) (wy rfl rfl eb) (y_mv ei) ?_
  refine w_val_g (v := .int .i64 5) (wy rfl rfl eb) (y_mv ei) ?_
  refine w_val_g (wy rfl rfl eb) (y_bin ei ei b_eql) ?_
  refine w_val (y_pick_t eb eb) ?_
  refine w_as eb ?_
  refine nt ?_
  refine wp_ret ?_
  refine fin_ret1 rfl eb ?_
  exact ⟨rfl, hk⟩

theorem ccmGreatY_a (key nonce ad : List (BitVec 8)) (av tv : BitVec 8) (hx : ¬ ((0#8).toNat < (av % 8#8).toNat ∧ (0#8).toNat < (tv % 8#8).toNat)) (size : Nat) (hok : Aes.okKey key.length) (hn : 7 ≤ nonce.length ∧ nonce.length ≤ 13) (h4 : 4 ≤ size) (h16 : size ≤ 16) (hev : size % 2 = 0) (ha : 70000 < (Cm.gz av).length) (w0 : World) : Calls Try.prog 16 #[.agg (arr 4 (fun j => if j < 1 then .string (str key) else if j < 2 then .string (str nonce) else if j < 3 then .string (str ad) else .int .i64 ((size : Nat) : Int))), U8 av, U8 tv] w0 fun e w' => e = .returned (.bool true) ∧ Below w0.heap.size w0 w' := by
 have hm8 : ∀ x : BitVec 8, (x % 8#8).toNat < 8 := fun x => by rw [BitVec.toNat_umod]; exact Nat.mod_lt _ (by decide)
 have h8a := hm8 av
 have h8t := hm8 tv
 have h80 := hm8 0#8
 have hsa := Cm.sizes_le ((av % 8#8).toNat)
 have hst := Cm.sizes_le ((tv % 8#8).toNat)
 refine enter (n := 71) Try.func16 rfl rfl rfl ?_
 have hk : Below w0.heap.size w0 w0 := Below.refl _ _
 refine sr ?_
 refine w_box (m := 4) (F := fun j => if j < 1 then .string (str key) else if j < 2 then .string (str nonce) else if j < 3 then .string (str ad) else .int .i64 ((size : Nat) : Int)) ea rfl ?_
 intro b_b w1 hbe_b_b r_b_b hb2
 have ge_b_b : w0.heap.size ≤ b_b := by have := hk.size; omega
 clear hbe_b_b
 replace hk := thenB hk hb2
 refine w_as Ev.c ?_
 refine nt ?_
 refine wp_seq ?_
 refine sr ?_
 refine w_call (Try.func43) (by kernel_rfl) rfl m0 (ccmWakes_c  w1) ?_
 rintro _ w3 ⟨rfl, hb4⟩
 refine ⟨_, rfl, ?_⟩
 replace r_b_b := r_b_b.step hb4
 replace hk := thenB hk hb4
 refine w_val (y_not eb) ?_
 refine nt ?_
 refine c_ff eb ?_
 refine wp_skip ?_
 refine then_n ?_
 refine sr ?_
 refine w_val (v := .agg (arr 8 (fun j => .int .i64 (((Cm.sizes (j)) : Nat) : Int)))) (y_build (vs := #[(0, .int .i64 0), (1, .int .i64 65279), (2, .int .i64 65280), (3, .int .i64 65281), (4, .int .i64 65535), (5, .int .i64 65536), (6, .int .i64 70000), (7, .int .i64 70001)]) (mp_cons Ev.c (mp_cons Ev.c (mp_cons Ev.c (mp_cons Ev.c (mp_cons Ev.c (mp_cons Ev.c (mp_cons Ev.c (mp_cons Ev.c mp0)))))))) (fun w => by kernel_rfl)) ?_
 refine w_alloc (m := 8) (F := fun j => .int .i64 0) (by kernel_rfl) ?_
 intro b_sizes w5 hbe_b_sizes r_b_sizes hb6
 have ne_b_b_b_sizes : b_b ≠ b_sizes := by have := r_b_b.lt; omega
 have ge_b_sizes : w0.heap.size ≤ b_sizes := by have := hk.size; omega
 clear hbe_b_sizes
 replace r_b_b := r_b_b.step hb6
 replace hk := thenB hk hb6
 refine w_sta (k := 8) (G := fun j => .int .i64 (((Cm.sizes (j)) : Nat) : Int)) (ex (pt b_sizes 0)) ea oc CcmLawGT.sz53 r_b_sizes (by omega) ?_
 clear r_b_sizes; intro w7 r_b_sizes hg8 _
 replace r_b_sizes := r_b_sizes.congr (g := fun j => .int .i64 (((Cm.sizes (j)) : Nat) : Int)) (fun j hj => by rw [if_pos ⟨Nat.zero_le _, by omega⟩]; first | rfl | (simp only [Nat.sub_zero]))
 replace r_b_b := r_b_b.stepG hg8 (by omega)
 replace hk := thenG hk hg8 (by omega)
 refine nt ?_
 refine wp_seq ?_
 refine sr ?_
 refine w_mv e8 ?_
 refine w_val (y_bin e8 (evc (U8 (8#8))) (rem8 (by decide))) ?_
 refine w_val (y_bin e8 (evc (U8 (0#8))) gtr8) ?_
 refine w_mv eb ?_
 by_cases hc9 : (0#8).toNat < (av % (8#8)).toNat
 ·skip
  refine w_val_g (v := U8 tv) (wy rfl rfl (eb (dt hc9))) (y_mv e8) ?_
  refine w_val_g (wy rfl rfl (eb (dt hc9))) (y_bin e8 (evc (U8 (8#8))) (rem8 (by decide))) ?_
  refine w_val_g (wy rfl rfl (eb (dt hc9))) (y_bin e8 (evc (U8 (0#8))) gtr8) ?_
  refine w_val (y_pick_t (eb (dt hc9)) eb) ?_
  refine nt ?_
  have hc10 : ¬ ((0#8).toNat < (tv % (8#8)).toNat) := by exact fun h => hx ⟨by assumption, h⟩
  refine c_f (p := (0#8).toNat < (tv % (8#8)).toNat) eb hc10 ?_
  refine wp_skip ?_
  refine then_n ?_
  refine sr ?_
  refine w_mv e8 ?_
  refine w_val (y_bin e8 (evc (U8 (8#8))) (rem8 (by decide))) ?_
  refine w_val (y_ia1z (i := ((av % (8#8)).toNat)) (ex (pt b_sizes 0)) (ex (.int .u8 ((av % (8#8)).toNat : Int))) Try.underlying53 CcmLawGT.sz3 rfl (by omega)) ?_
  refine w_val (v := .int .i64 (((Cm.sizes ((av % (8#8)).toNat)) : Nat) : Int)) (y_ld (ex (pt b_sizes ((av % (8#8)).toNat))) CcmLawGT.sc3 (r_b_sizes.val (by omega) rfl)) ?_
  refine w_mks (m := (Cm.sizes ((av % (8#8)).toNat))) (bytes := 1) (zv := U8 (0#8)) ei ei (by omega) (by omega) Try.underlying54 (by kernel_rfl) rfl (by omega) (by omega) ?_
  intro b_28 w11 hbe_b_28 r_b_28 hb12
  have ne_b_b_b_28 : b_b ≠ b_28 := by have := r_b_b.lt; omega
  have ne_b_sizes_b_28 : b_sizes ≠ b_28 := by have := r_b_sizes.lt; omega
  have ge_b_28 : w0.heap.size ≤ b_28 := by have := hk.size; omega
  clear hbe_b_28
  replace r_b_b := r_b_b.step hb12
  replace r_b_sizes := r_b_sizes.step hb12
  replace hk := thenB hk hb12
  refine w_val (y_str (l := Cm.gz av) el (by exact List.length_replicate) Try.underlying54 Try.underlying5 Try.underlying9 (fun j hj => (r_b_28.val (by omega) (by exact congrArg U8 (gb_rep _ _).symm)))) ?_
  refine w_val (v := pt b_b 2) (y_off (y_fa (ex (pt b_b 0)) (CcmLawGT.fa49_2 _ _)) (by first | rfl | omega)) ?_
  refine w_st (v := .string (str (Cm.gz av))) (ex (pt b_b 2)) es rfl rfl CcmLawGT.sz9 r_b_b (by omega) ?_
  clear r_b_b; intro w13 r_b_b hg14 _
  replace r_b_sizes := r_b_sizes.stepG hg14 (by omega)
  replace r_b_28 := r_b_28.stepG hg14 (by omega)
  replace hk := thenG hk hg14 (by omega)
  refine nt ?_
  refine sr ?_
  refine w_mv e8 ?_
  refine w_val (y_bin e8 (evc (U8 (8#8))) (rem8 (by decide))) ?_
  refine w_val (y_ia1z (i := ((tv % (8#8)).toNat)) (ex (pt b_sizes 0)) (ex (.int .u8 ((tv % (8#8)).toNat : Int))) Try.underlying53 CcmLawGT.sz3 rfl (by omega)) ?_
  refine w_val (v := .int .i64 (((Cm.sizes ((tv % (8#8)).toNat)) : Nat) : Int)) (y_ld (ex (pt b_sizes ((tv % (8#8)).toNat))) CcmLawGT.sc3 (r_b_sizes.val (by omega) rfl)) ?_
  refine w_mks (m := (Cm.sizes ((tv % (8#8)).toNat))) (bytes := 1) (zv := U8 (0#8)) ei ei (by omega) (by omega) Try.underlying54 (by kernel_rfl) rfl (by omega) (by omega) ?_
  intro b_35 w15 hbe_b_35 r_b_35 hb16
  have ne_b_b_b_35 : b_b ≠ b_35 := by have := r_b_b.lt; omega
  have ne_b_sizes_b_35 : b_sizes ≠ b_35 := by have := r_b_sizes.lt; omega
  have ne_b_28_b_35 : b_28 ≠ b_35 := by have := r_b_28.lt; omega
  have ge_b_35 : w0.heap.size ≤ b_35 := by have := hk.size; omega
  clear hbe_b_35
  replace r_b_b := r_b_b.step hb16
  replace r_b_sizes := r_b_sizes.step hb16
  replace r_b_28 := r_b_28.step hb16
  replace hk := thenB hk hb16
  refine w_val (y_str (l := Cm.gz tv) el (by exact List.length_replicate) Try.underlying54 Try.underlying5 Try.underlying9 (fun j hj => (r_b_35.val (by omega) (by exact congrArg U8 (gb_rep _ _).symm)))) ?_
  refine w_as es ?_
  refine nt ?_
  refine sr ?_
  refine w_val (v := pt b_b 0) (y_off (y_fa (ex (pt b_b 0)) (CcmLawGT.fa49_0 _ _)) (by first | rfl | omega)) ?_
  refine w_val (v := .string (str key)) (y_ld (ex (pt b_b 0)) CcmLawGT.sc9 (r_b_b.val (by omega) ((if_neg (by omega)).trans (etv (if_pos (by omega)))))) ?_
  refine w_val (v := pt b_b 1) (y_off (y_fa (ex (pt b_b 0)) (CcmLawGT.fa49_1 _ _)) (by first | rfl | omega)) ?_
  refine w_val (v := .string (str nonce)) (y_ld (ex (pt b_b 1)) CcmLawGT.sc9 (r_b_b.val (by omega) ((if_neg (by omega)).trans ((if_neg (by omega)).trans (etv (if_pos (by omega))))))) ?_
  refine w_val (v := pt b_b 2) (y_off (y_fa (ex (pt b_b 0)) (CcmLawGT.fa49_2 _ _)) (by first | rfl | omega)) ?_
  refine w_val (v := .string (str (Cm.gz av))) (y_ld (ex (pt b_b 2)) CcmLawGT.sc9 (r_b_b.val (by omega) (if_pos rfl))) ?_
  refine w_mv es ?_
  refine w_val (v := pt b_b 3) (y_off (y_fa (ex (pt b_b 0)) (CcmLawGT.fa49_3 _ _)) (by first | rfl | omega)) ?_
  refine w_val (v := .int .i64 ((size : Nat) : Int)) (y_ld (ex (pt b_b 3)) CcmLawGT.sc3 (r_b_b.val (by omega) ((if_neg (by omega)).trans ((if_neg (by omega)).trans ((if_neg (by omega)).trans ((if_neg (by omega)).trans (by first | with_reducible rfl | (with_reducible congr 1 <;> omega) | (with_reducible congr 2 <;> omega) | (with_reducible congr 3 <;> omega) | rfl))))))) ?_
  refine w_call (Try.func45) (by kernel_rfl) rfl (m5 es es es es ei) (cmSeal_a key nonce (Cm.gz av) size hok hn h4 h16 hev ha (Cm.gz tv) w15) ?_
  rintro _ w17 ⟨rfl, hb18⟩
  refine ⟨_, rfl, ?_⟩
  replace r_b_b := r_b_b.step hb18
  replace r_b_sizes := r_b_sizes.step hb18
  replace r_b_28 := r_b_28.step hb18
  replace r_b_35 := r_b_35.step hb18
  replace hk := thenB hk hb18
  refine w_mv (ex (.tuple #[.string (str ([] : List (BitVec 8))), .int .i64 6])) ?_
  refine w_val ye ?_
  refine w_val ye ?_
  refine w_as es ?_
  refine w_as ei ?_
  refine nt ?_
  refine sr ?_
  refine w_val (v := pt b_b 0) (y_off (y_fa (ex (pt b_b 0)) (CcmLawGT.fa49_0 _ _)) (by first | rfl | omega)) ?_
  refine w_val (v := .string (str key)) (y_ld (ex (pt b_b 0)) CcmLawGT.sc9 (r_b_b.val (by omega) ((if_neg (by omega)).trans (etv (if_pos (by omega)))))) ?_
  refine w_val (v := pt b_b 1) (y_off (y_fa (ex (pt b_b 0)) (CcmLawGT.fa49_1 _ _)) (by first | rfl | omega)) ?_
  refine w_val (v := .string (str nonce)) (y_ld (ex (pt b_b 1)) CcmLawGT.sc9 (r_b_b.val (by omega) ((if_neg (by omega)).trans ((if_neg (by omega)).trans (etv (if_pos (by omega))))))) ?_
  refine w_val (v := pt b_b 2) (y_off (y_fa (ex (pt b_b 0)) (CcmLawGT.fa49_2 _ _)) (by first | rfl | omega)) ?_
  refine w_val (v := .string (str (Cm.gz av))) (y_ld (ex (pt b_b 2)) CcmLawGT.sc9 (r_b_b.val (by omega) (if_pos rfl))) ?_
  refine w_mv es ?_
  refine w_val (v := pt b_b 3) (y_off (y_fa (ex (pt b_b 0)) (CcmLawGT.fa49_3 _ _)) (by first | rfl | omega)) ?_
  refine w_val (v := .int .i64 ((size : Nat) : Int)) (y_ld (ex (pt b_b 3)) CcmLawGT.sc3 (r_b_b.val (by omega) ((if_neg (by omega)).trans ((if_neg (by omega)).trans ((if_neg (by omega)).trans ((if_neg (by omega)).trans (by first | with_reducible rfl | (with_reducible congr 1 <;> omega) | (with_reducible congr 2 <;> omega) | (with_reducible congr 3 <;> omega) | rfl))))))) ?_
  refine w_call (Try.func46) (by kernel_rfl) rfl (m5 es es es es ei) (cmRefSeal_a key nonce (Cm.gz av) size hok hn h4 h16 hev ha (Cm.gz tv) w17) ?_
  rintro _ w19 ⟨rfl, hb20⟩
  refine ⟨_, rfl, ?_⟩
  replace r_b_b := r_b_b.step hb20
  replace r_b_sizes := r_b_sizes.step hb20
  replace r_b_28 := r_b_28.step hb20
  replace r_b_35 := r_b_35.step hb20
  replace hk := thenB hk hb20
  refine w_mv (ex (.tuple #[.string (str ([] : List (BitVec 8))), .int .i64 6])) ?_
  refine w_val ye ?_
  refine w_val ye ?_
  refine w_as es ?_
  refine w_as ei ?_
  refine nt ?_
  refine sr ?_
  refine w_mv es ?_
  refine w_mv es ?_
  refine w_val (y_bin es es b_eqs_same) ?_
  refine w_mv eb ?_
  refine w_val_g (v := .int .i64 6) (wy rfl rfl eb) (y_mv ei) ?_
  refine w_val_g (v := .int .i64 6) (wy rfl rfl eb) (y_mv ei) ?_
  refine w_val_g (wy rfl rfl eb) (y_bin ei ei b_eql) ?_
  refine w_val (y_pick_t eb eb) ?_
  refine w_as eb ?_
  refine nt ?_
  refine wp_ret ?_
  refine fin_ret1 rfl eb ?_
  exact ⟨rfl, hk⟩
 ·skip
  with_reducible refine w_skip ?_ ?_
  exact wn rfl rfl (eb (df hc9))
  with_reducible refine w_skip ?_ ?_
  exact wn rfl rfl (eb (df hc9))
  with_reducible refine w_skip ?_ ?_
  exact wn rfl rfl (eb (df hc9))
  refine w_val (y_pick_f (eb (df hc9)) Ev.c) ?_
  refine nt ?_
  refine c_ff eb ?_
  refine wp_skip ?_
  refine then_n ?_
  refine sr ?_
  refine w_mv e8 ?_
  refine w_val (y_bin e8 (evc (U8 (8#8))) (rem8 (by decide))) ?_
  refine w_val (y_ia1z (i := ((av % (8#8)).toNat)) (ex (pt b_sizes 0)) (ex (.int .u8 ((av % (8#8)).toNat : Int))) Try.underlying53 CcmLawGT.sz3 rfl (by omega)) ?_
  refine w_val (v := .int .i64 (((Cm.sizes ((av % (8#8)).toNat)) : Nat) : Int)) (y_ld (ex (pt b_sizes ((av % (8#8)).toNat))) CcmLawGT.sc3 (r_b_sizes.val (by omega) rfl)) ?_
  refine w_mks (m := (Cm.sizes ((av % (8#8)).toNat))) (bytes := 1) (zv := U8 (0#8)) ei ei (by omega) (by omega) Try.underlying54 (by kernel_rfl) rfl (by omega) (by omega) ?_
  intro b_28 w21 hbe_b_28 r_b_28 hb22
  have ne_b_b_b_28 : b_b ≠ b_28 := by have := r_b_b.lt; omega
  have ne_b_sizes_b_28 : b_sizes ≠ b_28 := by have := r_b_sizes.lt; omega
  have ge_b_28 : w0.heap.size ≤ b_28 := by have := hk.size; omega
  clear hbe_b_28
  replace r_b_b := r_b_b.step hb22
  replace r_b_sizes := r_b_sizes.step hb22
  replace hk := thenB hk hb22
  refine w_val (y_str (l := Cm.gz av) el (by exact List.length_replicate) Try.underlying54 Try.underlying5 Try.underlying9 (fun j hj => (r_b_28.val (by omega) (by exact congrArg U8 (gb_rep _ _).symm)))) ?_
  refine w_val (v := pt b_b 2) (y_off (y_fa (ex (pt b_b 0)) (CcmLawGT.fa49_2 _ _)) (by first | rfl | omega)) ?_
  refine w_st (v := .string (str (Cm.gz av))) (ex (pt b_b 2)) es rfl rfl CcmLawGT.sz9 r_b_b (by omega) ?_
  clear r_b_b; intro w23 r_b_b hg24 _
  replace r_b_sizes := r_b_sizes.stepG hg24 (by omega)
  replace r_b_28 := r_b_28.stepG hg24 (by omega)
  replace hk := thenG hk hg24 (by omega)
  refine nt ?_
  refine sr ?_
  refine w_mv e8 ?_
  refine w_val (y_bin e8 (evc (U8 (8#8))) (rem8 (by decide))) ?_
  refine w_val (y_ia1z (i := ((tv % (8#8)).toNat)) (ex (pt b_sizes 0)) (ex (.int .u8 ((tv % (8#8)).toNat : Int))) Try.underlying53 CcmLawGT.sz3 rfl (by omega)) ?_
  refine w_val (v := .int .i64 (((Cm.sizes ((tv % (8#8)).toNat)) : Nat) : Int)) (y_ld (ex (pt b_sizes ((tv % (8#8)).toNat))) CcmLawGT.sc3 (r_b_sizes.val (by omega) rfl)) ?_
  refine w_mks (m := (Cm.sizes ((tv % (8#8)).toNat))) (bytes := 1) (zv := U8 (0#8)) ei ei (by omega) (by omega) Try.underlying54 (by kernel_rfl) rfl (by omega) (by omega) ?_
  intro b_35 w25 hbe_b_35 r_b_35 hb26
  have ne_b_b_b_35 : b_b ≠ b_35 := by have := r_b_b.lt; omega
  have ne_b_sizes_b_35 : b_sizes ≠ b_35 := by have := r_b_sizes.lt; omega
  have ne_b_28_b_35 : b_28 ≠ b_35 := by have := r_b_28.lt; omega
  have ge_b_35 : w0.heap.size ≤ b_35 := by have := hk.size; omega
  clear hbe_b_35
  replace r_b_b := r_b_b.step hb26
  replace r_b_sizes := r_b_sizes.step hb26
  replace r_b_28 := r_b_28.step hb26
  replace hk := thenB hk hb26
  refine w_val (y_str (l := Cm.gz tv) el (by exact List.length_replicate) Try.underlying54 Try.underlying5 Try.underlying9 (fun j hj => (r_b_35.val (by omega) (by exact congrArg U8 (gb_rep _ _).symm)))) ?_
  refine w_as es ?_
  refine nt ?_
  refine sr ?_
  refine w_val (v := pt b_b 0) (y_off (y_fa (ex (pt b_b 0)) (CcmLawGT.fa49_0 _ _)) (by first | rfl | omega)) ?_
  refine w_val (v := .string (str key)) (y_ld (ex (pt b_b 0)) CcmLawGT.sc9 (r_b_b.val (by omega) ((if_neg (by omega)).trans (etv (if_pos (by omega)))))) ?_
  refine w_val (v := pt b_b 1) (y_off (y_fa (ex (pt b_b 0)) (CcmLawGT.fa49_1 _ _)) (by first | rfl | omega)) ?_
  refine w_val (v := .string (str nonce)) (y_ld (ex (pt b_b 1)) CcmLawGT.sc9 (r_b_b.val (by omega) ((if_neg (by omega)).trans ((if_neg (by omega)).trans (etv (if_pos (by omega))))))) ?_
  refine w_val (v := pt b_b 2) (y_off (y_fa (ex (pt b_b 0)) (CcmLawGT.fa49_2 _ _)) (by first | rfl | omega)) ?_
  refine w_val (v := .string (str (Cm.gz av))) (y_ld (ex (pt b_b 2)) CcmLawGT.sc9 (r_b_b.val (by omega) (if_pos rfl))) ?_
  refine w_mv es ?_
  refine w_val (v := pt b_b 3) (y_off (y_fa (ex (pt b_b 0)) (CcmLawGT.fa49_3 _ _)) (by first | rfl | omega)) ?_
  refine w_val (v := .int .i64 ((size : Nat) : Int)) (y_ld (ex (pt b_b 3)) CcmLawGT.sc3 (r_b_b.val (by omega) ((if_neg (by omega)).trans ((if_neg (by omega)).trans ((if_neg (by omega)).trans ((if_neg (by omega)).trans (by first | with_reducible rfl | (with_reducible congr 1 <;> omega) | (with_reducible congr 2 <;> omega) | (with_reducible congr 3 <;> omega) | rfl))))))) ?_
  refine w_call (Try.func45) (by kernel_rfl) rfl (m5 es es es es ei) (cmSeal_a key nonce (Cm.gz av) size hok hn h4 h16 hev ha (Cm.gz tv) w25) ?_
  rintro _ w27 ⟨rfl, hb28⟩
  refine ⟨_, rfl, ?_⟩
  replace r_b_b := r_b_b.step hb28
  replace r_b_sizes := r_b_sizes.step hb28
  replace r_b_28 := r_b_28.step hb28
  replace r_b_35 := r_b_35.step hb28
  replace hk := thenB hk hb28
  refine w_mv (ex (.tuple #[.string (str ([] : List (BitVec 8))), .int .i64 6])) ?_
  refine w_val ye ?_
  refine w_val ye ?_
  refine w_as es ?_
  refine w_as ei ?_
  refine nt ?_
  refine sr ?_
  refine w_val (v := pt b_b 0) (y_off (y_fa (ex (pt b_b 0)) (CcmLawGT.fa49_0 _ _)) (by first | rfl | omega)) ?_
  refine w_val (v := .string (str key)) (y_ld (ex (pt b_b 0)) CcmLawGT.sc9 (r_b_b.val (by omega) ((if_neg (by omega)).trans (etv (if_pos (by omega)))))) ?_
  refine w_val (v := pt b_b 1) (y_off (y_fa (ex (pt b_b 0)) (CcmLawGT.fa49_1 _ _)) (by first | rfl | omega)) ?_
  refine w_val (v := .string (str nonce)) (y_ld (ex (pt b_b 1)) CcmLawGT.sc9 (r_b_b.val (by omega) ((if_neg (by omega)).trans ((if_neg (by omega)).trans (etv (if_pos (by omega))))))) ?_
  refine w_val (v := pt b_b 2) (y_off (y_fa (ex (pt b_b 0)) (CcmLawGT.fa49_2 _ _)) (by first | rfl | omega)) ?_
  refine w_val (v := .string (str (Cm.gz av))) (y_ld (ex (pt b_b 2)) CcmLawGT.sc9 (r_b_b.val (by omega) (if_pos rfl))) ?_
  refine w_mv es ?_
  refine w_val (v := pt b_b 3) (y_off (y_fa (ex (pt b_b 0)) (CcmLawGT.fa49_3 _ _)) (by first | rfl | omega)) ?_
  refine w_val (v := .int .i64 ((size : Nat) : Int)) (y_ld (ex (pt b_b 3)) CcmLawGT.sc3 (r_b_b.val (by omega) ((if_neg (by omega)).trans ((if_neg (by omega)).trans ((if_neg (by omega)).trans ((if_neg (by omega)).trans (by first | with_reducible rfl | (with_reducible congr 1 <;> omega) | (with_reducible congr 2 <;> omega) | (with_reducible congr 3 <;> omega) | rfl))))))) ?_
  refine w_call (Try.func46) (by kernel_rfl) rfl (m5 es es es es ei) (cmRefSeal_a key nonce (Cm.gz av) size hok hn h4 h16 hev ha (Cm.gz tv) w27) ?_
  rintro _ w29 ⟨rfl, hb30⟩
  refine ⟨_, rfl, ?_⟩
  replace r_b_b := r_b_b.step hb30
  replace r_b_sizes := r_b_sizes.step hb30
  replace r_b_28 := r_b_28.step hb30
  replace r_b_35 := r_b_35.step hb30
  replace hk := thenB hk hb30
  refine w_mv (ex (.tuple #[.string (str ([] : List (BitVec 8))), .int .i64 6])) ?_
  refine w_val ye ?_
  refine w_val ye ?_
  refine w_as es ?_
  refine w_as ei ?_
  refine nt ?_
  refine sr ?_
  refine w_mv es ?_
  refine w_mv es ?_
  refine w_val (y_bin es es b_eqs_same) ?_
  refine w_mv eb ?_
  refine w_val_g (v := .int .i64 6) (wy rfl rfl eb) (y_mv ei) ?_
  refine w_val_g (v := .int .i64 6) (wy rfl rfl eb) (y_mv ei) ?_
  refine w_val_g (wy rfl rfl eb) (y_bin ei ei b_eql) ?_
  refine w_val (y_pick_t eb eb) ?_
  refine w_as eb ?_
  refine nt ?_
  refine wp_ret ?_
  refine fin_ret1 rfl eb ?_
  exact ⟨rfl, hk⟩

theorem ccmGreatY_z (key nonce ad : List (BitVec 8)) (av tv : BitVec 8) (hx : ¬ ((0#8).toNat < (av % 8#8).toNat ∧ (0#8).toNat < (tv % 8#8).toNat)) (size : Nat) (hok : Aes.okKey key.length) (hn : 7 ≤ nonce.length ∧ nonce.length ≤ 13) (h4 : 4 ≤ size) (h16 : size ≤ 16) (hev : size % 2 = 0) (ha : (Cm.gz av).length ≤ 70000) (hf : ¬ Cm.Fit (Cm.gz tv).length nonce) (w0 : World) : Calls Try.prog 16 #[.agg (arr 4 (fun j => if j < 1 then .string (str key) else if j < 2 then .string (str nonce) else if j < 3 then .string (str ad) else .int .i64 ((size : Nat) : Int))), U8 av, U8 tv] w0 fun e w' => e = .returned (.bool true) ∧ Below w0.heap.size w0 w' := by
 have hm8 : ∀ x : BitVec 8, (x % 8#8).toNat < 8 := fun x => by rw [BitVec.toNat_umod]; exact Nat.mod_lt _ (by decide)
 have h8a := hm8 av
 have h8t := hm8 tv
 have h80 := hm8 0#8
 have hsa := Cm.sizes_le ((av % 8#8).toNat)
 have hst := Cm.sizes_le ((tv % 8#8).toNat)
 refine enter (n := 71) Try.func16 rfl rfl rfl ?_
 have hk : Below w0.heap.size w0 w0 := Below.refl _ _
 refine sr ?_
 refine w_box (m := 4) (F := fun j => if j < 1 then .string (str key) else if j < 2 then .string (str nonce) else if j < 3 then .string (str ad) else .int .i64 ((size : Nat) : Int)) ea rfl ?_
 intro b_b w1 hbe_b_b r_b_b hb2
 have ge_b_b : w0.heap.size ≤ b_b := by have := hk.size; omega
 clear hbe_b_b
 replace hk := thenB hk hb2
 refine w_as Ev.c ?_
 refine nt ?_
 refine wp_seq ?_
 refine sr ?_
 refine w_call (Try.func43) (by kernel_rfl) rfl m0 (ccmWakes_c  w1) ?_
 rintro _ w3 ⟨rfl, hb4⟩
 refine ⟨_, rfl, ?_⟩
 replace r_b_b := r_b_b.step hb4
 replace hk := thenB hk hb4
 refine w_val (y_not eb) ?_
 refine nt ?_
 refine c_ff eb ?_
 refine wp_skip ?_
 refine then_n ?_
 refine sr ?_
 refine w_val (v := .agg (arr 8 (fun j => .int .i64 (((Cm.sizes (j)) : Nat) : Int)))) (y_build (vs := #[(0, .int .i64 0), (1, .int .i64 65279), (2, .int .i64 65280), (3, .int .i64 65281), (4, .int .i64 65535), (5, .int .i64 65536), (6, .int .i64 70000), (7, .int .i64 70001)]) (mp_cons Ev.c (mp_cons Ev.c (mp_cons Ev.c (mp_cons Ev.c (mp_cons Ev.c (mp_cons Ev.c (mp_cons Ev.c (mp_cons Ev.c mp0)))))))) (fun w => by kernel_rfl)) ?_
 refine w_alloc (m := 8) (F := fun j => .int .i64 0) (by kernel_rfl) ?_
 intro b_sizes w5 hbe_b_sizes r_b_sizes hb6
 have ne_b_b_b_sizes : b_b ≠ b_sizes := by have := r_b_b.lt; omega
 have ge_b_sizes : w0.heap.size ≤ b_sizes := by have := hk.size; omega
 clear hbe_b_sizes
 replace r_b_b := r_b_b.step hb6
 replace hk := thenB hk hb6
 refine w_sta (k := 8) (G := fun j => .int .i64 (((Cm.sizes (j)) : Nat) : Int)) (ex (pt b_sizes 0)) ea oc CcmLawGT.sz53 r_b_sizes (by omega) ?_
 clear r_b_sizes; intro w7 r_b_sizes hg8 _
 replace r_b_sizes := r_b_sizes.congr (g := fun j => .int .i64 (((Cm.sizes (j)) : Nat) : Int)) (fun j hj => by rw [if_pos ⟨Nat.zero_le _, by omega⟩]; first | rfl | (simp only [Nat.sub_zero]))
 replace r_b_b := r_b_b.stepG hg8 (by omega)
 replace hk := thenG hk hg8 (by omega)
 refine nt ?_
 refine wp_seq ?_
 refine sr ?_
 refine w_mv e8 ?_
 refine w_val (y_bin e8 (evc (U8 (8#8))) (rem8 (by decide))) ?_
 refine w_val (y_bin e8 (evc (U8 (0#8))) gtr8) ?_
 refine w_mv eb ?_
 by_cases hc9 : (0#8).toNat < (av % (8#8)).toNat
 ·skip
  refine w_val_g (v := U8 tv) (wy rfl rfl (eb (dt hc9))) (y_mv e8) ?_
  refine w_val_g (wy rfl rfl (eb (dt hc9))) (y_bin e8 (evc (U8 (8#8))) (rem8 (by decide))) ?_
  refine w_val_g (wy rfl rfl (eb (dt hc9))) (y_bin e8 (evc (U8 (0#8))) gtr8) ?_
  refine w_val (y_pick_t (eb (dt hc9)) eb) ?_
  refine nt ?_
  have hc10 : ¬ ((0#8).toNat < (tv % (8#8)).toNat) := by exact fun h => hx ⟨by assumption, h⟩
  refine c_f (p := (0#8).toNat < (tv % (8#8)).toNat) eb hc10 ?_
  refine wp_skip ?_
  refine then_n ?_
  refine sr ?_
  refine w_mv e8 ?_
  refine w_val (y_bin e8 (evc (U8 (8#8))) (rem8 (by decide))) ?_
  refine w_val (y_ia1z (i := ((av % (8#8)).toNat)) (ex (pt b_sizes 0)) (ex (.int .u8 ((av % (8#8)).toNat : Int))) Try.underlying53 CcmLawGT.sz3 rfl (by omega)) ?_
  refine w_val (v := .int .i64 (((Cm.sizes ((av % (8#8)).toNat)) : Nat) : Int)) (y_ld (ex (pt b_sizes ((av % (8#8)).toNat))) CcmLawGT.sc3 (r_b_sizes.val (by omega) rfl)) ?_
  refine w_mks (m := (Cm.sizes ((av % (8#8)).toNat))) (bytes := 1) (zv := U8 (0#8)) ei ei (by omega) (by omega) Try.underlying54 (by kernel_rfl) rfl (by omega) (by omega) ?_
  intro b_28 w11 hbe_b_28 r_b_28 hb12
  have ne_b_b_b_28 : b_b ≠ b_28 := by have := r_b_b.lt; omega
  have ne_b_sizes_b_28 : b_sizes ≠ b_28 := by have := r_b_sizes.lt; omega
  have ge_b_28 : w0.heap.size ≤ b_28 := by have := hk.size; omega
  clear hbe_b_28
  replace r_b_b := r_b_b.step hb12
  replace r_b_sizes := r_b_sizes.step hb12
  replace hk := thenB hk hb12
  refine w_val (y_str (l := Cm.gz av) el (by exact List.length_replicate) Try.underlying54 Try.underlying5 Try.underlying9 (fun j hj => (r_b_28.val (by omega) (by exact congrArg U8 (gb_rep _ _).symm)))) ?_
  refine w_val (v := pt b_b 2) (y_off (y_fa (ex (pt b_b 0)) (CcmLawGT.fa49_2 _ _)) (by first | rfl | omega)) ?_
  refine w_st (v := .string (str (Cm.gz av))) (ex (pt b_b 2)) es rfl rfl CcmLawGT.sz9 r_b_b (by omega) ?_
  clear r_b_b; intro w13 r_b_b hg14 _
  replace r_b_sizes := r_b_sizes.stepG hg14 (by omega)
  replace r_b_28 := r_b_28.stepG hg14 (by omega)
  replace hk := thenG hk hg14 (by omega)
  refine nt ?_
  refine sr ?_
  refine w_mv e8 ?_
  refine w_val (y_bin e8 (evc (U8 (8#8))) (rem8 (by decide))) ?_
  refine w_val (y_ia1z (i := ((tv % (8#8)).toNat)) (ex (pt b_sizes 0)) (ex (.int .u8 ((tv % (8#8)).toNat : Int))) Try.underlying53 CcmLawGT.sz3 rfl (by omega)) ?_
  refine w_val (v := .int .i64 (((Cm.sizes ((tv % (8#8)).toNat)) : Nat) : Int)) (y_ld (ex (pt b_sizes ((tv % (8#8)).toNat))) CcmLawGT.sc3 (r_b_sizes.val (by omega) rfl)) ?_
  refine w_mks (m := (Cm.sizes ((tv % (8#8)).toNat))) (bytes := 1) (zv := U8 (0#8)) ei ei (by omega) (by omega) Try.underlying54 (by kernel_rfl) rfl (by omega) (by omega) ?_
  intro b_35 w15 hbe_b_35 r_b_35 hb16
  have ne_b_b_b_35 : b_b ≠ b_35 := by have := r_b_b.lt; omega
  have ne_b_sizes_b_35 : b_sizes ≠ b_35 := by have := r_b_sizes.lt; omega
  have ne_b_28_b_35 : b_28 ≠ b_35 := by have := r_b_28.lt; omega
  have ge_b_35 : w0.heap.size ≤ b_35 := by have := hk.size; omega
  clear hbe_b_35
  replace r_b_b := r_b_b.step hb16
  replace r_b_sizes := r_b_sizes.step hb16
  replace r_b_28 := r_b_28.step hb16
  replace hk := thenB hk hb16
  refine w_val (y_str (l := Cm.gz tv) el (by exact List.length_replicate) Try.underlying54 Try.underlying5 Try.underlying9 (fun j hj => (r_b_35.val (by omega) (by exact congrArg U8 (gb_rep _ _).symm)))) ?_
  refine w_as es ?_
  refine nt ?_
  refine sr ?_
  refine w_val (v := pt b_b 0) (y_off (y_fa (ex (pt b_b 0)) (CcmLawGT.fa49_0 _ _)) (by first | rfl | omega)) ?_
  refine w_val (v := .string (str key)) (y_ld (ex (pt b_b 0)) CcmLawGT.sc9 (r_b_b.val (by omega) ((if_neg (by omega)).trans (etv (if_pos (by omega)))))) ?_
  refine w_val (v := pt b_b 1) (y_off (y_fa (ex (pt b_b 0)) (CcmLawGT.fa49_1 _ _)) (by first | rfl | omega)) ?_
  refine w_val (v := .string (str nonce)) (y_ld (ex (pt b_b 1)) CcmLawGT.sc9 (r_b_b.val (by omega) ((if_neg (by omega)).trans ((if_neg (by omega)).trans (etv (if_pos (by omega))))))) ?_
  refine w_val (v := pt b_b 2) (y_off (y_fa (ex (pt b_b 0)) (CcmLawGT.fa49_2 _ _)) (by first | rfl | omega)) ?_
  refine w_val (v := .string (str (Cm.gz av))) (y_ld (ex (pt b_b 2)) CcmLawGT.sc9 (r_b_b.val (by omega) (if_pos rfl))) ?_
  refine w_mv es ?_
  refine w_val (v := pt b_b 3) (y_off (y_fa (ex (pt b_b 0)) (CcmLawGT.fa49_3 _ _)) (by first | rfl | omega)) ?_
  refine w_val (v := .int .i64 ((size : Nat) : Int)) (y_ld (ex (pt b_b 3)) CcmLawGT.sc3 (r_b_b.val (by omega) ((if_neg (by omega)).trans ((if_neg (by omega)).trans ((if_neg (by omega)).trans ((if_neg (by omega)).trans (by first | with_reducible rfl | (with_reducible congr 1 <;> omega) | (with_reducible congr 2 <;> omega) | (with_reducible congr 3 <;> omega) | rfl))))))) ?_
  refine w_call (Try.func45) (by kernel_rfl) rfl (m5 es es es es ei) (cmSeal_z key nonce (Cm.gz av) size hok hn h4 h16 hev ha (Cm.gz tv) (Nat.le_trans (Cm.gz_le _) (by decide)) hf w15) ?_
  rintro _ w17 ⟨rfl, hb18⟩
  refine ⟨_, rfl, ?_⟩
  replace r_b_b := r_b_b.step hb18
  replace r_b_sizes := r_b_sizes.step hb18
  replace r_b_28 := r_b_28.step hb18
  replace r_b_35 := r_b_35.step hb18
  replace hk := thenB hk hb18
  refine w_mv (ex (.tuple #[.string (str ([] : List (BitVec 8))), .int .i64 6])) ?_
  refine w_val ye ?_
  refine w_val ye ?_
  refine w_as es ?_
  refine w_as ei ?_
  refine nt ?_
  refine sr ?_
  refine w_val (v := pt b_b 0) (y_off (y_fa (ex (pt b_b 0)) (CcmLawGT.fa49_0 _ _)) (by first | rfl | omega)) ?_
  refine w_val (v := .string (str key)) (y_ld (ex (pt b_b 0)) CcmLawGT.sc9 (r_b_b.val (by omega) ((if_neg (by omega)).trans (etv (if_pos (by omega)))))) ?_
  refine w_val (v := pt b_b 1) (y_off (y_fa (ex (pt b_b 0)) (CcmLawGT.fa49_1 _ _)) (by first | rfl | omega)) ?_
  refine w_val (v := .string (str nonce)) (y_ld (ex (pt b_b 1)) CcmLawGT.sc9 (r_b_b.val (by omega) ((if_neg (by omega)).trans ((if_neg (by omega)).trans (etv (if_pos (by omega))))))) ?_
  refine w_val (v := pt b_b 2) (y_off (y_fa (ex (pt b_b 0)) (CcmLawGT.fa49_2 _ _)) (by first | rfl | omega)) ?_
  refine w_val (v := .string (str (Cm.gz av))) (y_ld (ex (pt b_b 2)) CcmLawGT.sc9 (r_b_b.val (by omega) (if_pos rfl))) ?_
  refine w_mv es ?_
  refine w_val (v := pt b_b 3) (y_off (y_fa (ex (pt b_b 0)) (CcmLawGT.fa49_3 _ _)) (by first | rfl | omega)) ?_
  refine w_val (v := .int .i64 ((size : Nat) : Int)) (y_ld (ex (pt b_b 3)) CcmLawGT.sc3 (r_b_b.val (by omega) ((if_neg (by omega)).trans ((if_neg (by omega)).trans ((if_neg (by omega)).trans ((if_neg (by omega)).trans (by first | with_reducible rfl | (with_reducible congr 1 <;> omega) | (with_reducible congr 2 <;> omega) | (with_reducible congr 3 <;> omega) | rfl))))))) ?_
  refine w_call (Try.func46) (by kernel_rfl) rfl (m5 es es es es ei) (cmRefSeal_z key nonce (Cm.gz av) size hok hn h4 h16 hev ha (Cm.gz tv) (Nat.le_trans (Cm.gz_le _) (by decide)) hf w17) ?_
  rintro _ w19 ⟨rfl, hb20⟩
  refine ⟨_, rfl, ?_⟩
  replace r_b_b := r_b_b.step hb20
  replace r_b_sizes := r_b_sizes.step hb20
  replace r_b_28 := r_b_28.step hb20
  replace r_b_35 := r_b_35.step hb20
  replace hk := thenB hk hb20
  refine w_mv (ex (.tuple #[.string (str ([] : List (BitVec 8))), .int .i64 6])) ?_
  refine w_val ye ?_
  refine w_val ye ?_
  refine w_as es ?_
  refine w_as ei ?_
  refine nt ?_
  refine sr ?_
  refine w_mv es ?_
  refine w_mv es ?_
  refine w_val (y_bin es es b_eqs_same) ?_
  refine w_mv eb ?_
  refine w_val_g (v := .int .i64 6) (wy rfl rfl eb) (y_mv ei) ?_
  refine w_val_g (v := .int .i64 6) (wy rfl rfl eb) (y_mv ei) ?_
  refine w_val_g (wy rfl rfl eb) (y_bin ei ei b_eql) ?_
  refine w_val (y_pick_t eb eb) ?_
  refine w_as eb ?_
  refine nt ?_
  refine wp_ret ?_
  refine fin_ret1 rfl eb ?_
  exact ⟨rfl, hk⟩
 ·skip
  with_reducible refine w_skip ?_ ?_
  exact wn rfl rfl (eb (df hc9))
  with_reducible refine w_skip ?_ ?_
  exact wn rfl rfl (eb (df hc9))
  with_reducible refine w_skip ?_ ?_
  exact wn rfl rfl (eb (df hc9))
  refine w_val (y_pick_f (eb (df hc9)) Ev.c) ?_
  refine nt ?_
  refine c_ff eb ?_
  refine wp_skip ?_
  refine then_n ?_
  refine sr ?_
  refine w_mv e8 ?_
  refine w_val (y_bin e8 (evc (U8 (8#8))) (rem8 (by decide))) ?_
  refine w_val (y_ia1z (i := ((av % (8#8)).toNat)) (ex (pt b_sizes 0)) (ex (.int .u8 ((av % (8#8)).toNat : Int))) Try.underlying53 CcmLawGT.sz3 rfl (by omega)) ?_
  refine w_val (v := .int .i64 (((Cm.sizes ((av % (8#8)).toNat)) : Nat) : Int)) (y_ld (ex (pt b_sizes ((av % (8#8)).toNat))) CcmLawGT.sc3 (r_b_sizes.val (by omega) rfl)) ?_
  refine w_mks (m := (Cm.sizes ((av % (8#8)).toNat))) (bytes := 1) (zv := U8 (0#8)) ei ei (by omega) (by omega) Try.underlying54 (by kernel_rfl) rfl (by omega) (by omega) ?_
  intro b_28 w21 hbe_b_28 r_b_28 hb22
  have ne_b_b_b_28 : b_b ≠ b_28 := by have := r_b_b.lt; omega
  have ne_b_sizes_b_28 : b_sizes ≠ b_28 := by have := r_b_sizes.lt; omega
  have ge_b_28 : w0.heap.size ≤ b_28 := by have := hk.size; omega
  clear hbe_b_28
  replace r_b_b := r_b_b.step hb22
  replace r_b_sizes := r_b_sizes.step hb22
  replace hk := thenB hk hb22
  refine w_val (y_str (l := Cm.gz av) el (by exact List.length_replicate) Try.underlying54 Try.underlying5 Try.underlying9 (fun j hj => (r_b_28.val (by omega) (by exact congrArg U8 (gb_rep _ _).symm)))) ?_
  refine w_val (v := pt b_b 2) (y_off (y_fa (ex (pt b_b 0)) (CcmLawGT.fa49_2 _ _)) (by first | rfl | omega)) ?_
  refine w_st (v := .string (str (Cm.gz av))) (ex (pt b_b 2)) es rfl rfl CcmLawGT.sz9 r_b_b (by omega) ?_
  clear r_b_b; intro w23 r_b_b hg24 _
  replace r_b_sizes := r_b_sizes.stepG hg24 (by omega)
  replace r_b_28 := r_b_28.stepG hg24 (by omega)
  replace hk := thenG hk hg24 (by omega)
  refine nt ?_
  refine sr ?_
  refine w_mv e8 ?_
  refine w_val (y_bin e8 (evc (U8 (8#8))) (rem8 (by decide))) ?_
  refine w_val (y_ia1z (i := ((tv % (8#8)).toNat)) (ex (pt b_sizes 0)) (ex (.int .u8 ((tv % (8#8)).toNat : Int))) Try.underlying53 CcmLawGT.sz3 rfl (by omega)) ?_
  refine w_val (v := .int .i64 (((Cm.sizes ((tv % (8#8)).toNat)) : Nat) : Int)) (y_ld (ex (pt b_sizes ((tv % (8#8)).toNat))) CcmLawGT.sc3 (r_b_sizes.val (by omega) rfl)) ?_
  refine w_mks (m := (Cm.sizes ((tv % (8#8)).toNat))) (bytes := 1) (zv := U8 (0#8)) ei ei (by omega) (by omega) Try.underlying54 (by kernel_rfl) rfl (by omega) (by omega) ?_
  intro b_35 w25 hbe_b_35 r_b_35 hb26
  have ne_b_b_b_35 : b_b ≠ b_35 := by have := r_b_b.lt; omega
  have ne_b_sizes_b_35 : b_sizes ≠ b_35 := by have := r_b_sizes.lt; omega
  have ne_b_28_b_35 : b_28 ≠ b_35 := by have := r_b_28.lt; omega
  have ge_b_35 : w0.heap.size ≤ b_35 := by have := hk.size; omega
  clear hbe_b_35
  replace r_b_b := r_b_b.step hb26
  replace r_b_sizes := r_b_sizes.step hb26
  replace r_b_28 := r_b_28.step hb26
  replace hk := thenB hk hb26
  refine w_val (y_str (l := Cm.gz tv) el (by exact List.length_replicate) Try.underlying54 Try.underlying5 Try.underlying9 (fun j hj => (r_b_35.val (by omega) (by exact congrArg U8 (gb_rep _ _).symm)))) ?_
  refine w_as es ?_
  refine nt ?_
  refine sr ?_
  refine w_val (v := pt b_b 0) (y_off (y_fa (ex (pt b_b 0)) (CcmLawGT.fa49_0 _ _)) (by first | rfl | omega)) ?_
  refine w_val (v := .string (str key)) (y_ld (ex (pt b_b 0)) CcmLawGT.sc9 (r_b_b.val (by omega) ((if_neg (by omega)).trans (etv (if_pos (by omega)))))) ?_
  refine w_val (v := pt b_b 1) (y_off (y_fa (ex (pt b_b 0)) (CcmLawGT.fa49_1 _ _)) (by first | rfl | omega)) ?_
  refine w_val (v := .string (str nonce)) (y_ld (ex (pt b_b 1)) CcmLawGT.sc9 (r_b_b.val (by omega) ((if_neg (by omega)).trans ((if_neg (by omega)).trans (etv (if_pos (by omega))))))) ?_
  refine w_val (v := pt b_b 2) (y_off (y_fa (ex (pt b_b 0)) (CcmLawGT.fa49_2 _ _)) (by first | rfl | omega)) ?_
  refine w_val (v := .string (str (Cm.gz av))) (y_ld (ex (pt b_b 2)) CcmLawGT.sc9 (r_b_b.val (by omega) (if_pos rfl))) ?_
  refine w_mv es ?_
  refine w_val (v := pt b_b 3) (y_off (y_fa (ex (pt b_b 0)) (CcmLawGT.fa49_3 _ _)) (by first | rfl | omega)) ?_
  refine w_val (v := .int .i64 ((size : Nat) : Int)) (y_ld (ex (pt b_b 3)) CcmLawGT.sc3 (r_b_b.val (by omega) ((if_neg (by omega)).trans ((if_neg (by omega)).trans ((if_neg (by omega)).trans ((if_neg (by omega)).trans (by first | with_reducible rfl | (with_reducible congr 1 <;> omega) | (with_reducible congr 2 <;> omega) | (with_reducible congr 3 <;> omega) | rfl))))))) ?_
  refine w_call (Try.func45) (by kernel_rfl) rfl (m5 es es es es ei) (cmSeal_z key nonce (Cm.gz av) size hok hn h4 h16 hev ha (Cm.gz tv) (Nat.le_trans (Cm.gz_le _) (by decide)) hf w25) ?_
  rintro _ w27 ⟨rfl, hb28⟩
  refine ⟨_, rfl, ?_⟩
  replace r_b_b := r_b_b.step hb28
  replace r_b_sizes := r_b_sizes.step hb28
  replace r_b_28 := r_b_28.step hb28
  replace r_b_35 := r_b_35.step hb28
  replace hk := thenB hk hb28
  refine w_mv (ex (.tuple #[.string (str ([] : List (BitVec 8))), .int .i64 6])) ?_
  refine w_val ye ?_
  refine w_val ye ?_
  refine w_as es ?_
  refine w_as ei ?_
  refine nt ?_
  refine sr ?_
  refine w_val (v := pt b_b 0) (y_off (y_fa (ex (pt b_b 0)) (CcmLawGT.fa49_0 _ _)) (by first | rfl | omega)) ?_
  refine w_val (v := .string (str key)) (y_ld (ex (pt b_b 0)) CcmLawGT.sc9 (r_b_b.val (by omega) ((if_neg (by omega)).trans (etv (if_pos (by omega)))))) ?_
  refine w_val (v := pt b_b 1) (y_off (y_fa (ex (pt b_b 0)) (CcmLawGT.fa49_1 _ _)) (by first | rfl | omega)) ?_
  refine w_val (v := .string (str nonce)) (y_ld (ex (pt b_b 1)) CcmLawGT.sc9 (r_b_b.val (by omega) ((if_neg (by omega)).trans ((if_neg (by omega)).trans (etv (if_pos (by omega))))))) ?_
  refine w_val (v := pt b_b 2) (y_off (y_fa (ex (pt b_b 0)) (CcmLawGT.fa49_2 _ _)) (by first | rfl | omega)) ?_
  refine w_val (v := .string (str (Cm.gz av))) (y_ld (ex (pt b_b 2)) CcmLawGT.sc9 (r_b_b.val (by omega) (if_pos rfl))) ?_
  refine w_mv es ?_
  refine w_val (v := pt b_b 3) (y_off (y_fa (ex (pt b_b 0)) (CcmLawGT.fa49_3 _ _)) (by first | rfl | omega)) ?_
  refine w_val (v := .int .i64 ((size : Nat) : Int)) (y_ld (ex (pt b_b 3)) CcmLawGT.sc3 (r_b_b.val (by omega) ((if_neg (by omega)).trans ((if_neg (by omega)).trans ((if_neg (by omega)).trans ((if_neg (by omega)).trans (by first | with_reducible rfl | (with_reducible congr 1 <;> omega) | (with_reducible congr 2 <;> omega) | (with_reducible congr 3 <;> omega) | rfl))))))) ?_
  refine w_call (Try.func46) (by kernel_rfl) rfl (m5 es es es es ei) (cmRefSeal_z key nonce (Cm.gz av) size hok hn h4 h16 hev ha (Cm.gz tv) (Nat.le_trans (Cm.gz_le _) (by decide)) hf w27) ?_
  rintro _ w29 ⟨rfl, hb30⟩
  refine ⟨_, rfl, ?_⟩
  replace r_b_b := r_b_b.step hb30
  replace r_b_sizes := r_b_sizes.step hb30
  replace r_b_28 := r_b_28.step hb30
  replace r_b_35 := r_b_35.step hb30
  replace hk := thenB hk hb30
  refine w_mv (ex (.tuple #[.string (str ([] : List (BitVec 8))), .int .i64 6])) ?_
  refine w_val ye ?_
  refine w_val ye ?_
  refine w_as es ?_
  refine w_as ei ?_
  refine nt ?_
  refine sr ?_
  refine w_mv es ?_
  refine w_mv es ?_
  refine w_val (y_bin es es b_eqs_same) ?_
  refine w_mv eb ?_
  refine w_val_g (v := .int .i64 6) (wy rfl rfl eb) (y_mv ei) ?_
  refine w_val_g (v := .int .i64 6) (wy rfl rfl eb) (y_mv ei) ?_
  refine w_val_g (wy rfl rfl eb) (y_bin ei ei b_eql) ?_
  refine w_val (y_pick_t eb eb) ?_
  refine w_as eb ?_
  refine nt ?_
  refine wp_ret ?_
  refine fin_ret1 rfl eb ?_
  exact ⟨rfl, hk⟩

theorem ccmGreatY_y (key nonce ad : List (BitVec 8)) (av tv : BitVec 8) (hx : ¬ ((0#8).toNat < (av % 8#8).toNat ∧ (0#8).toNat < (tv % 8#8).toNat)) (size : Nat) (hok : Aes.okKey key.length) (hn : 7 ≤ nonce.length ∧ nonce.length ≤ 13) (h4 : 4 ≤ size) (h16 : size ≤ 16) (hev : size % 2 = 0) (ha : (Cm.gz av).length ≤ 70000) (hf : Cm.Fit (Cm.gz tv).length nonce) (hs : (Cm.gz av).length + (Cm.gz tv).length ≤ 139960) (w0 : World) : Calls Try.prog 16 #[.agg (arr 4 (fun j => if j < 1 then .string (str key) else if j < 2 then .string (str nonce) else if j < 3 then .string (str ad) else .int .i64 ((size : Nat) : Int))), U8 av, U8 tv] w0 fun e w' => e = .returned (.bool true) ∧ Below w0.heap.size w0 w' := by
 have hm8 : ∀ x : BitVec 8, (x % 8#8).toNat < 8 := fun x => by rw [BitVec.toNat_umod]; exact Nat.mod_lt _ (by decide)
 have h8a := hm8 av
 have h8t := hm8 tv
 have h80 := hm8 0#8
 have hsa := Cm.sizes_le ((av % 8#8).toNat)
 have hst := Cm.sizes_le ((tv % 8#8).toNat)
 refine enter (n := 71) Try.func16 rfl rfl rfl ?_
 have hk : Below w0.heap.size w0 w0 := Below.refl _ _
 refine sr ?_
 refine w_box (m := 4) (F := fun j => if j < 1 then .string (str key) else if j < 2 then .string (str nonce) else if j < 3 then .string (str ad) else .int .i64 ((size : Nat) : Int)) ea rfl ?_
 intro b_b w1 hbe_b_b r_b_b hb2
 have ge_b_b : w0.heap.size ≤ b_b := by have := hk.size; omega
 clear hbe_b_b
 replace hk := thenB hk hb2
 refine w_as Ev.c ?_
 refine nt ?_
 refine wp_seq ?_
 refine sr ?_
 refine w_call (Try.func43) (by kernel_rfl) rfl m0 (ccmWakes_c  w1) ?_
 rintro _ w3 ⟨rfl, hb4⟩
 refine ⟨_, rfl, ?_⟩
 replace r_b_b := r_b_b.step hb4
 replace hk := thenB hk hb4
 refine w_val (y_not eb) ?_
 refine nt ?_
 refine c_ff eb ?_
 refine wp_skip ?_
 refine then_n ?_
 refine sr ?_
 refine w_val (v := .agg (arr 8 (fun j => .int .i64 (((Cm.sizes (j)) : Nat) : Int)))) (y_build (vs := #[(0, .int .i64 0), (1, .int .i64 65279), (2, .int .i64 65280), (3, .int .i64 65281), (4, .int .i64 65535), (5, .int .i64 65536), (6, .int .i64 70000), (7, .int .i64 70001)]) (mp_cons Ev.c (mp_cons Ev.c (mp_cons Ev.c (mp_cons Ev.c (mp_cons Ev.c (mp_cons Ev.c (mp_cons Ev.c (mp_cons Ev.c mp0)))))))) (fun w => by kernel_rfl)) ?_
 refine w_alloc (m := 8) (F := fun j => .int .i64 0) (by kernel_rfl) ?_
 intro b_sizes w5 hbe_b_sizes r_b_sizes hb6
 have ne_b_b_b_sizes : b_b ≠ b_sizes := by have := r_b_b.lt; omega
 have ge_b_sizes : w0.heap.size ≤ b_sizes := by have := hk.size; omega
 clear hbe_b_sizes
 replace r_b_b := r_b_b.step hb6
 replace hk := thenB hk hb6
 refine w_sta (k := 8) (G := fun j => .int .i64 (((Cm.sizes (j)) : Nat) : Int)) (ex (pt b_sizes 0)) ea oc CcmLawGT.sz53 r_b_sizes (by omega) ?_
 clear r_b_sizes; intro w7 r_b_sizes hg8 _
 replace r_b_sizes := r_b_sizes.congr (g := fun j => .int .i64 (((Cm.sizes (j)) : Nat) : Int)) (fun j hj => by rw [if_pos ⟨Nat.zero_le _, by omega⟩]; first | rfl | (simp only [Nat.sub_zero]))
 replace r_b_b := r_b_b.stepG hg8 (by omega)
 replace hk := thenG hk hg8 (by omega)
 refine nt ?_
 refine wp_seq ?_
 refine sr ?_
 refine w_mv e8 ?_
 refine w_val (y_bin e8 (evc (U8 (8#8))) (rem8 (by decide))) ?_
 refine w_val (y_bin e8 (evc (U8 (0#8))) gtr8) ?_
 refine w_mv eb ?_
 by_cases hc9 : (0#8).toNat < (av % (8#8)).toNat
 ·skip
  refine w_val_g (v := U8 tv) (wy rfl rfl (eb (dt hc9))) (y_mv e8) ?_
  refine w_val_g (wy rfl rfl (eb (dt hc9))) (y_bin e8 (evc (U8 (8#8))) (rem8 (by decide))) ?_
  refine w_val_g (wy rfl rfl (eb (dt hc9))) (y_bin e8 (evc (U8 (0#8))) gtr8) ?_
  refine w_val (y_pick_t (eb (dt hc9)) eb) ?_
  refine nt ?_
  have hc10 : ¬ ((0#8).toNat < (tv % (8#8)).toNat) := by exact fun h => hx ⟨by assumption, h⟩
  refine c_f (p := (0#8).toNat < (tv % (8#8)).toNat) eb hc10 ?_
  refine wp_skip ?_
  refine then_n ?_
  refine sr ?_
  refine w_mv e8 ?_
  refine w_val (y_bin e8 (evc (U8 (8#8))) (rem8 (by decide))) ?_
  refine w_val (y_ia1z (i := ((av % (8#8)).toNat)) (ex (pt b_sizes 0)) (ex (.int .u8 ((av % (8#8)).toNat : Int))) Try.underlying53 CcmLawGT.sz3 rfl (by omega)) ?_
  refine w_val (v := .int .i64 (((Cm.sizes ((av % (8#8)).toNat)) : Nat) : Int)) (y_ld (ex (pt b_sizes ((av % (8#8)).toNat))) CcmLawGT.sc3 (r_b_sizes.val (by omega) rfl)) ?_
  refine w_mks (m := (Cm.sizes ((av % (8#8)).toNat))) (bytes := 1) (zv := U8 (0#8)) ei ei (by omega) (by omega) Try.underlying54 (by kernel_rfl) rfl (by omega) (by omega) ?_
  intro b_28 w11 hbe_b_28 r_b_28 hb12
  have ne_b_b_b_28 : b_b ≠ b_28 := by have := r_b_b.lt; omega
  have ne_b_sizes_b_28 : b_sizes ≠ b_28 := by have := r_b_sizes.lt; omega
  have ge_b_28 : w0.heap.size ≤ b_28 := by have := hk.size; omega
  clear hbe_b_28
  replace r_b_b := r_b_b.step hb12
  replace r_b_sizes := r_b_sizes.step hb12
  replace hk := thenB hk hb12
  refine w_val (y_str (l := Cm.gz av) el (by exact List.length_replicate) Try.underlying54 Try.underlying5 Try.underlying9 (fun j hj => (r_b_28.val (by omega) (by exact congrArg U8 (gb_rep _ _).symm)))) ?_
  refine w_val (v := pt b_b 2) (y_off (y_fa (ex (pt b_b 0)) (CcmLawGT.fa49_2 _ _)) (by first | rfl | omega)) ?_
  refine w_st (v := .string (str (Cm.gz av))) (ex (pt b_b 2)) es rfl rfl CcmLawGT.sz9 r_b_b (by omega) ?_
  clear r_b_b; intro w13 r_b_b hg14 _
  replace r_b_sizes := r_b_sizes.stepG hg14 (by omega)
  replace r_b_28 := r_b_28.stepG hg14 (by omega)
  replace hk := thenG hk hg14 (by omega)
  refine nt ?_
  refine sr ?_
  refine w_mv e8 ?_
  refine w_val (y_bin e8 (evc (U8 (8#8))) (rem8 (by decide))) ?_
  refine w_val (y_ia1z (i := ((tv % (8#8)).toNat)) (ex (pt b_sizes 0)) (ex (.int .u8 ((tv % (8#8)).toNat : Int))) Try.underlying53 CcmLawGT.sz3 rfl (by omega)) ?_
  refine w_val (v := .int .i64 (((Cm.sizes ((tv % (8#8)).toNat)) : Nat) : Int)) (y_ld (ex (pt b_sizes ((tv % (8#8)).toNat))) CcmLawGT.sc3 (r_b_sizes.val (by omega) rfl)) ?_
  refine w_mks (m := (Cm.sizes ((tv % (8#8)).toNat))) (bytes := 1) (zv := U8 (0#8)) ei ei (by omega) (by omega) Try.underlying54 (by kernel_rfl) rfl (by omega) (by omega) ?_
  intro b_35 w15 hbe_b_35 r_b_35 hb16
  have ne_b_b_b_35 : b_b ≠ b_35 := by have := r_b_b.lt; omega
  have ne_b_sizes_b_35 : b_sizes ≠ b_35 := by have := r_b_sizes.lt; omega
  have ne_b_28_b_35 : b_28 ≠ b_35 := by have := r_b_28.lt; omega
  have ge_b_35 : w0.heap.size ≤ b_35 := by have := hk.size; omega
  clear hbe_b_35
  replace r_b_b := r_b_b.step hb16
  replace r_b_sizes := r_b_sizes.step hb16
  replace r_b_28 := r_b_28.step hb16
  replace hk := thenB hk hb16
  refine w_val (y_str (l := Cm.gz tv) el (by exact List.length_replicate) Try.underlying54 Try.underlying5 Try.underlying9 (fun j hj => (r_b_35.val (by omega) (by exact congrArg U8 (gb_rep _ _).symm)))) ?_
  refine w_as es ?_
  refine nt ?_
  refine sr ?_
  refine w_val (v := pt b_b 0) (y_off (y_fa (ex (pt b_b 0)) (CcmLawGT.fa49_0 _ _)) (by first | rfl | omega)) ?_
  refine w_val (v := .string (str key)) (y_ld (ex (pt b_b 0)) CcmLawGT.sc9 (r_b_b.val (by omega) ((if_neg (by omega)).trans (etv (if_pos (by omega)))))) ?_
  refine w_val (v := pt b_b 1) (y_off (y_fa (ex (pt b_b 0)) (CcmLawGT.fa49_1 _ _)) (by first | rfl | omega)) ?_
  refine w_val (v := .string (str nonce)) (y_ld (ex (pt b_b 1)) CcmLawGT.sc9 (r_b_b.val (by omega) ((if_neg (by omega)).trans ((if_neg (by omega)).trans (etv (if_pos (by omega))))))) ?_
  refine w_val (v := pt b_b 2) (y_off (y_fa (ex (pt b_b 0)) (CcmLawGT.fa49_2 _ _)) (by first | rfl | omega)) ?_
  refine w_val (v := .string (str (Cm.gz av))) (y_ld (ex (pt b_b 2)) CcmLawGT.sc9 (r_b_b.val (by omega) (if_pos rfl))) ?_
  refine w_mv es ?_
  refine w_val (v := pt b_b 3) (y_off (y_fa (ex (pt b_b 0)) (CcmLawGT.fa49_3 _ _)) (by first | rfl | omega)) ?_
  refine w_val (v := .int .i64 ((size : Nat) : Int)) (y_ld (ex (pt b_b 3)) CcmLawGT.sc3 (r_b_b.val (by omega) ((if_neg (by omega)).trans ((if_neg (by omega)).trans ((if_neg (by omega)).trans ((if_neg (by omega)).trans (by first | with_reducible rfl | (with_reducible congr 1 <;> omega) | (with_reducible congr 2 <;> omega) | (with_reducible congr 3 <;> omega) | rfl))))))) ?_
  refine w_call (Try.func45) (by kernel_rfl) rfl (m5 es es es es ei) (cmSeal_y key nonce (Cm.gz av) size hok hn h4 h16 hev ha (Cm.gz tv) (Nat.le_trans (Cm.gz_le _) (by decide)) hf hs w15) ?_
  rintro _ w17 ⟨rfl, hb18⟩
  refine ⟨_, rfl, ?_⟩
  replace r_b_b := r_b_b.step hb18
  replace r_b_sizes := r_b_sizes.step hb18
  replace r_b_28 := r_b_28.step hb18
  replace r_b_35 := r_b_35.step hb18
  replace hk := thenB hk hb18
  refine w_mv (ex (.tuple #[.string (str (Cm.sealed key nonce (Cm.gz av) (Cm.gz tv) (15 - nonce.length) size)), .int .i64 0])) ?_
  refine w_val ye ?_
  refine w_val ye ?_
  refine w_as es ?_
  refine w_as ei ?_
  refine nt ?_
  refine sr ?_
  refine w_val (v := pt b_b 0) (y_off (y_fa (ex (pt b_b 0)) (CcmLawGT.fa49_0 _ _)) (by first | rfl | omega)) ?_
  refine w_val (v := .string (str key)) (y_ld (ex (pt b_b 0)) CcmLawGT.sc9 (r_b_b.val (by omega) ((if_neg (by omega)).trans (etv (if_pos (by omega)))))) ?_
  refine w_val (v := pt b_b 1) (y_off (y_fa (ex (pt b_b 0)) (CcmLawGT.fa49_1 _ _)) (by first | rfl | omega)) ?_
  refine w_val (v := .string (str nonce)) (y_ld (ex (pt b_b 1)) CcmLawGT.sc9 (r_b_b.val (by omega) ((if_neg (by omega)).trans ((if_neg (by omega)).trans (etv (if_pos (by omega))))))) ?_
  refine w_val (v := pt b_b 2) (y_off (y_fa (ex (pt b_b 0)) (CcmLawGT.fa49_2 _ _)) (by first | rfl | omega)) ?_
  refine w_val (v := .string (str (Cm.gz av))) (y_ld (ex (pt b_b 2)) CcmLawGT.sc9 (r_b_b.val (by omega) (if_pos rfl))) ?_
  refine w_mv es ?_
  refine w_val (v := pt b_b 3) (y_off (y_fa (ex (pt b_b 0)) (CcmLawGT.fa49_3 _ _)) (by first | rfl | omega)) ?_
  refine w_val (v := .int .i64 ((size : Nat) : Int)) (y_ld (ex (pt b_b 3)) CcmLawGT.sc3 (r_b_b.val (by omega) ((if_neg (by omega)).trans ((if_neg (by omega)).trans ((if_neg (by omega)).trans ((if_neg (by omega)).trans (by first | with_reducible rfl | (with_reducible congr 1 <;> omega) | (with_reducible congr 2 <;> omega) | (with_reducible congr 3 <;> omega) | rfl))))))) ?_
  refine w_call (Try.func46) (by kernel_rfl) rfl (m5 es es es es ei) (cmRefSeal_y key nonce (Cm.gz av) size hok hn h4 h16 hev ha (Cm.gz tv) (Nat.le_trans (Cm.gz_le _) (by decide)) hf w17) ?_
  rintro _ w19 ⟨rfl, hb20⟩
  refine ⟨_, rfl, ?_⟩
  replace r_b_b := r_b_b.step hb20
  replace r_b_sizes := r_b_sizes.step hb20
  replace r_b_28 := r_b_28.step hb20
  replace r_b_35 := r_b_35.step hb20
  replace hk := thenB hk hb20
  refine w_mv (ex (.tuple #[.string (str (Cm.sealed key nonce (Cm.gz av) (Cm.gz tv) (15 - nonce.length) size)), .int .i64 0])) ?_
  refine w_val ye ?_
  refine w_val ye ?_
  refine w_as es ?_
  refine w_as ei ?_
  refine nt ?_
  refine sr ?_
  refine w_mv es ?_
  refine w_mv es ?_
  refine w_val (y_bin es es b_eqs_same) ?_
  refine w_mv eb ?_
  refine w_val_g (v := .int .i64 0) (wy rfl rfl eb) (y_mv ei) ?_
  refine w_val_g (v := .int .i64 0) (wy rfl rfl eb) (y_mv ei) ?_
  refine w_val_g (wy rfl rfl eb) (y_bin ei ei b_eql) ?_
  refine w_val (y_pick_t eb eb) ?_
  refine w_as eb ?_
  refine nt ?_
  refine wp_ret ?_
  refine fin_ret1 rfl eb ?_
  exact ⟨rfl, hk⟩
 ·skip
  with_reducible refine w_skip ?_ ?_
  exact wn rfl rfl (eb (df hc9))
  with_reducible refine w_skip ?_ ?_
  exact wn rfl rfl (eb (df hc9))
  with_reducible refine w_skip ?_ ?_
  exact wn rfl rfl (eb (df hc9))
  refine w_val (y_pick_f (eb (df hc9)) Ev.c) ?_
  refine nt ?_
  refine c_ff eb ?_
  refine wp_skip ?_
  refine then_n ?_
  refine sr ?_
  refine w_mv e8 ?_
  refine w_val (y_bin e8 (evc (U8 (8#8))) (rem8 (by decide))) ?_
  refine w_val (y_ia1z (i := ((av % (8#8)).toNat)) (ex (pt b_sizes 0)) (ex (.int .u8 ((av % (8#8)).toNat : Int))) Try.underlying53 CcmLawGT.sz3 rfl (by omega)) ?_
  refine w_val (v := .int .i64 (((Cm.sizes ((av % (8#8)).toNat)) : Nat) : Int)) (y_ld (ex (pt b_sizes ((av % (8#8)).toNat))) CcmLawGT.sc3 (r_b_sizes.val (by omega) rfl)) ?_
  refine w_mks (m := (Cm.sizes ((av % (8#8)).toNat))) (bytes := 1) (zv := U8 (0#8)) ei ei (by omega) (by omega) Try.underlying54 (by kernel_rfl) rfl (by omega) (by omega) ?_
  intro b_28 w21 hbe_b_28 r_b_28 hb22
  have ne_b_b_b_28 : b_b ≠ b_28 := by have := r_b_b.lt; omega
  have ne_b_sizes_b_28 : b_sizes ≠ b_28 := by have := r_b_sizes.lt; omega
  have ge_b_28 : w0.heap.size ≤ b_28 := by have := hk.size; omega
  clear hbe_b_28
  replace r_b_b := r_b_b.step hb22
  replace r_b_sizes := r_b_sizes.step hb22
  replace hk := thenB hk hb22
  refine w_val (y_str (l := Cm.gz av) el (by exact List.length_replicate) Try.underlying54 Try.underlying5 Try.underlying9 (fun j hj => (r_b_28.val (by omega) (by exact congrArg U8 (gb_rep _ _).symm)))) ?_
  refine w_val (v := pt b_b 2) (y_off (y_fa (ex (pt b_b 0)) (CcmLawGT.fa49_2 _ _)) (by first | rfl | omega)) ?_
  refine w_st (v := .string (str (Cm.gz av))) (ex (pt b_b 2)) es rfl rfl CcmLawGT.sz9 r_b_b (by omega) ?_
  clear r_b_b; intro w23 r_b_b hg24 _
  replace r_b_sizes := r_b_sizes.stepG hg24 (by omega)
  replace r_b_28 := r_b_28.stepG hg24 (by omega)
  replace hk := thenG hk hg24 (by omega)
  refine nt ?_
  refine sr ?_
  refine w_mv e8 ?_
  refine w_val (y_bin e8 (evc (U8 (8#8))) (rem8 (by decide))) ?_
  refine w_val (y_ia1z (i := ((tv % (8#8)).toNat)) (ex (pt b_sizes 0)) (ex (.int .u8 ((tv % (8#8)).toNat : Int))) Try.underlying53 CcmLawGT.sz3 rfl (by omega)) ?_
  refine w_val (v := .int .i64 (((Cm.sizes ((tv % (8#8)).toNat)) : Nat) : Int)) (y_ld (ex (pt b_sizes ((tv % (8#8)).toNat))) CcmLawGT.sc3 (r_b_sizes.val (by omega) rfl)) ?_
  refine w_mks (m := (Cm.sizes ((tv % (8#8)).toNat))) (bytes := 1) (zv := U8 (0#8)) ei ei (by omega) (by omega) Try.underlying54 (by kernel_rfl) rfl (by omega) (by omega) ?_
  intro b_35 w25 hbe_b_35 r_b_35 hb26
  have ne_b_b_b_35 : b_b ≠ b_35 := by have := r_b_b.lt; omega
  have ne_b_sizes_b_35 : b_sizes ≠ b_35 := by have := r_b_sizes.lt; omega
  have ne_b_28_b_35 : b_28 ≠ b_35 := by have := r_b_28.lt; omega
  have ge_b_35 : w0.heap.size ≤ b_35 := by have := hk.size; omega
  clear hbe_b_35
  replace r_b_b := r_b_b.step hb26
  replace r_b_sizes := r_b_sizes.step hb26
  replace r_b_28 := r_b_28.step hb26
  replace hk := thenB hk hb26
  refine w_val (y_str (l := Cm.gz tv) el (by exact List.length_replicate) Try.underlying54 Try.underlying5 Try.underlying9 (fun j hj => (r_b_35.val (by omega) (by exact congrArg U8 (gb_rep _ _).symm)))) ?_
  refine w_as es ?_
  refine nt ?_
  refine sr ?_
  refine w_val (v := pt b_b 0) (y_off (y_fa (ex (pt b_b 0)) (CcmLawGT.fa49_0 _ _)) (by first | rfl | omega)) ?_
  refine w_val (v := .string (str key)) (y_ld (ex (pt b_b 0)) CcmLawGT.sc9 (r_b_b.val (by omega) ((if_neg (by omega)).trans (etv (if_pos (by omega)))))) ?_
  refine w_val (v := pt b_b 1) (y_off (y_fa (ex (pt b_b 0)) (CcmLawGT.fa49_1 _ _)) (by first | rfl | omega)) ?_
  refine w_val (v := .string (str nonce)) (y_ld (ex (pt b_b 1)) CcmLawGT.sc9 (r_b_b.val (by omega) ((if_neg (by omega)).trans ((if_neg (by omega)).trans (etv (if_pos (by omega))))))) ?_
  refine w_val (v := pt b_b 2) (y_off (y_fa (ex (pt b_b 0)) (CcmLawGT.fa49_2 _ _)) (by first | rfl | omega)) ?_
  refine w_val (v := .string (str (Cm.gz av))) (y_ld (ex (pt b_b 2)) CcmLawGT.sc9 (r_b_b.val (by omega) (if_pos rfl))) ?_
  refine w_mv es ?_
  refine w_val (v := pt b_b 3) (y_off (y_fa (ex (pt b_b 0)) (CcmLawGT.fa49_3 _ _)) (by first | rfl | omega)) ?_
  refine w_val (v := .int .i64 ((size : Nat) : Int)) (y_ld (ex (pt b_b 3)) CcmLawGT.sc3 (r_b_b.val (by omega) ((if_neg (by omega)).trans ((if_neg (by omega)).trans ((if_neg (by omega)).trans ((if_neg (by omega)).trans (by first | with_reducible rfl | (with_reducible congr 1 <;> omega) | (with_reducible congr 2 <;> omega) | (with_reducible congr 3 <;> omega) | rfl))))))) ?_
  refine w_call (Try.func45) (by kernel_rfl) rfl (m5 es es es es ei) (cmSeal_y key nonce (Cm.gz av) size hok hn h4 h16 hev ha (Cm.gz tv) (Nat.le_trans (Cm.gz_le _) (by decide)) hf hs w25) ?_
  rintro _ w27 ⟨rfl, hb28⟩
  refine ⟨_, rfl, ?_⟩
  replace r_b_b := r_b_b.step hb28
  replace r_b_sizes := r_b_sizes.step hb28
  replace r_b_28 := r_b_28.step hb28
  replace r_b_35 := r_b_35.step hb28
  replace hk := thenB hk hb28
  refine w_mv (ex (.tuple #[.string (str (Cm.sealed key nonce (Cm.gz av) (Cm.gz tv) (15 - nonce.length) size)), .int .i64 0])) ?_
  refine w_val ye ?_
  refine w_val ye ?_
  refine w_as es ?_
  refine w_as ei ?_
  refine nt ?_
  refine sr ?_
  refine w_val (v := pt b_b 0) (y_off (y_fa (ex (pt b_b 0)) (CcmLawGT.fa49_0 _ _)) (by first | rfl | omega)) ?_
  refine w_val (v := .string (str key)) (y_ld (ex (pt b_b 0)) CcmLawGT.sc9 (r_b_b.val (by omega) ((if_neg (by omega)).trans (etv (if_pos (by omega)))))) ?_
  refine w_val (v := pt b_b 1) (y_off (y_fa (ex (pt b_b 0)) (CcmLawGT.fa49_1 _ _)) (by first | rfl | omega)) ?_
  refine w_val (v := .string (str nonce)) (y_ld (ex (pt b_b 1)) CcmLawGT.sc9 (r_b_b.val (by omega) ((if_neg (by omega)).trans ((if_neg (by omega)).trans (etv (if_pos (by omega))))))) ?_
  refine w_val (v := pt b_b 2) (y_off (y_fa (ex (pt b_b 0)) (CcmLawGT.fa49_2 _ _)) (by first | rfl | omega)) ?_
  refine w_val (v := .string (str (Cm.gz av))) (y_ld (ex (pt b_b 2)) CcmLawGT.sc9 (r_b_b.val (by omega) (if_pos rfl))) ?_
  refine w_mv es ?_
  refine w_val (v := pt b_b 3) (y_off (y_fa (ex (pt b_b 0)) (CcmLawGT.fa49_3 _ _)) (by first | rfl | omega)) ?_
  refine w_val (v := .int .i64 ((size : Nat) : Int)) (y_ld (ex (pt b_b 3)) CcmLawGT.sc3 (r_b_b.val (by omega) ((if_neg (by omega)).trans ((if_neg (by omega)).trans ((if_neg (by omega)).trans ((if_neg (by omega)).trans (by first | with_reducible rfl | (with_reducible congr 1 <;> omega) | (with_reducible congr 2 <;> omega) | (with_reducible congr 3 <;> omega) | rfl))))))) ?_
  refine w_call (Try.func46) (by kernel_rfl) rfl (m5 es es es es ei) (cmRefSeal_y key nonce (Cm.gz av) size hok hn h4 h16 hev ha (Cm.gz tv) (Nat.le_trans (Cm.gz_le _) (by decide)) hf w27) ?_
  rintro _ w29 ⟨rfl, hb30⟩
  refine ⟨_, rfl, ?_⟩
  replace r_b_b := r_b_b.step hb30
  replace r_b_sizes := r_b_sizes.step hb30
  replace r_b_28 := r_b_28.step hb30
  replace r_b_35 := r_b_35.step hb30
  replace hk := thenB hk hb30
  refine w_mv (ex (.tuple #[.string (str (Cm.sealed key nonce (Cm.gz av) (Cm.gz tv) (15 - nonce.length) size)), .int .i64 0])) ?_
  refine w_val ye ?_
  refine w_val ye ?_
  refine w_as es ?_
  refine w_as ei ?_
  refine nt ?_
  refine sr ?_
  refine w_mv es ?_
  refine w_mv es ?_
  refine w_val (y_bin es es b_eqs_same) ?_
  refine w_mv eb ?_
  refine w_val_g (v := .int .i64 0) (wy rfl rfl eb) (y_mv ei) ?_
  refine w_val_g (v := .int .i64 0) (wy rfl rfl eb) (y_mv ei) ?_
  refine w_val_g (wy rfl rfl eb) (y_bin ei ei b_eql) ?_
  refine w_val (y_pick_t eb eb) ?_
  refine w_as eb ?_
  refine nt ?_
  refine wp_ret ?_
  refine fin_ret1 rfl eb ?_
  exact ⟨rfl, hk⟩


theorem Cm.great_sum (a t : BitVec 8) (hx : ¬ ((0#8).toNat < (a % 8#8).toNat ∧ (0#8).toNat < (t % 8#8).toNat)) (ha : (Cm.gz a).length ≤ 70000) (hf : (Cm.gz t).length ≤ 70000) : (Cm.gz a).length + (Cm.gz t).length ≤ 139960 := by
  have z : (0#8).toNat = 0 := rfl
  rw [Cm.gz_len] at ha hf
  rw [Cm.gz_len, Cm.gz_len]
  have h0 : Cm.sizes 0 = 0 := rfl
  by_cases e : (a % 8#8).toNat = 0
  · rw [e]; omega
  · have e2 : (t % 8#8).toNat = 0 := by omega
    rw [e2]; omega

theorem walk_CcmGreat (key : List (BitVec 8)) (hkey : key.length ≤ 140737488351232) (nonce : List (BitVec 8)) (hno : nonce.length ≤ 140737488351232) (ad : List (BitVec 8)) (ha_ : ad.length ≤ 140737488351232) (size : Int) (hw : (Lit.int .i64 size).wf = true) (av tv : BitVec 8) (w : World) : Calls Try.prog 16 #[.agg #[.string (str key), .string (str nonce), .string (str ad), .int .i64 size], U8 av, U8 tv] w fun e w' => e = .returned (.bool true) ∧ Below w.heap.size w w' := by
  by_cases hx : (0#8).toNat < (av % 8#8).toNat ∧ (0#8).toNat < (tv % 8#8).toNat
  · by_cases hok : Aes.okKey key.length
    · by_cases hn : 7 ≤ nonce.length ∧ nonce.length ≤ 13
      · by_cases ht : 4 ≤ size ∧ size ≤ 16 ∧ size % 2 = 0
        · obtain ⟨k, rfl⟩ : ∃ k : Nat, size = k := ⟨size.toNat, by omega⟩
          by_cases ha : (Cm.gz av).length ≤ 70000
          · by_cases hf : Cm.Fit (Cm.gz 0#8).length nonce
            · exact ccmGreatX_y key nonce ad av tv hx k hok hn (by omega) (by omega) (by omega) ha hf (by have h0 : (Cm.gz 0#8).length = 0 := rfl; omega) w
            · exact ccmGreatX_z key nonce ad av tv hx k hok hn (by omega) (by omega) (by omega) ha hf w
          · exact ccmGreatX_a key nonce ad av tv hx k hok hn (by omega) (by omega) (by omega) (by omega) w
        · exact ccmGreatX_t key nonce ad av tv hx size hok hn ht w
      · exact ccmGreatX_n key nonce ad av tv hx size hok hn w
    · exact ccmGreatX_k key nonce ad av tv hx size hok w
  · by_cases hok : Aes.okKey key.length
    · by_cases hn : 7 ≤ nonce.length ∧ nonce.length ≤ 13
      · by_cases ht : 4 ≤ size ∧ size ≤ 16 ∧ size % 2 = 0
        · obtain ⟨k, rfl⟩ : ∃ k : Nat, size = k := ⟨size.toNat, by omega⟩
          by_cases ha : (Cm.gz av).length ≤ 70000
          · by_cases hf : Cm.Fit (Cm.gz tv).length nonce
            · exact ccmGreatY_y key nonce ad av tv hx k hok hn (by omega) (by omega) (by omega) ha hf (by exact Cm.great_sum _ _ (fun h => hx h) ha hf.1) w
            · exact ccmGreatY_z key nonce ad av tv hx k hok hn (by omega) (by omega) (by omega) ha hf w
          · exact ccmGreatY_a key nonce ad av tv hx k hok hn (by omega) (by omega) (by omega) (by omega) w
        · exact ccmGreatY_t key nonce ad av tv hx size hok hn ht w
      · exact ccmGreatY_n key nonce ad av tv hx size hok hn w
    · exact ccmGreatY_k key nonce ad av tv hx size hok w
end Go.Proofs.Ytjdcpejcnmpiaaa
