/-
  The reference's columns, and its cipher. Conditions as each says.
-/
import Derived.Test.YtdmbfimjbmfbaaaGreatDoorRows
import Derived.Test.YtdmbfimjbmfbaaaGreatDoorGenOwn
import Derived.Test.YtdmbfimjbmfbaaaGreatDoorOct
import Derived.Test.YtdmbfimjbmfbaaaGreatDoorAesMulRef
import Derived.Test.YtdmbfimjbmfbaaaGreatDoorAesBackPlain
import Derived.Test.YtdmbfimjbmfbaaaGreatDoorGenSh
import Derived.ProofKit
namespace Go.Proofs.YtdmbfimjbmfbaaaGreatDoor
open Go.RowKit
set_option linter.unusedSimpArgs false
set_option linter.unusedVariables false
set_option maxRecDepth 100000
set_option maxHeartbeats 1000000
namespace AesRefAT
theorem mixed : Tryz.prog.follows .mixedOrders = true := by kernel_rfl
theorem ag74 : (Tryz.prog.underlying 74).map isAggD = some true := by rw [Tryz.underlying74]; rfl
theorem fa84_0 (g off : Nat) : ∀ w, (Instr.fieldAt 84 (.pointer (some ⟨g, off, none⟩)) 0).run Tryz.prog w = .ok (.pointer (some ⟨g, off + 0, none⟩)) w := fun w => by kernel_rfl
theorem fa84_2 (g off : Nat) : ∀ w, (Instr.fieldAt 84 (.pointer (some ⟨g, off, none⟩)) 2).run Tryz.prog w = .ok (.pointer (some ⟨g, off + 512, none⟩)) w := fun w => by kernel_rfl
theorem sc5 : (Tryz.prog.underlying 5).map scal = some true := by rw [Tryz.underlying5]; rfl
theorem sc82 : (Tryz.prog.underlying 82).map scal = some true := by rw [Tryz.underlying82]; rfl
theorem sz5 : (Tryz.prog.info? 5).map (·.size) = some 1 := by kernel_rfl
theorem sz74 : (Tryz.prog.info? 74).map (·.size) = some 16 := by kernel_rfl
theorem sz88 : (Tryz.prog.info? 88).map (·.size) = some 4 := by kernel_rfl
end AesRefAT
def Aes.colAcc (x : Nat → BitVec 8) (c : Nat) (f : Nat → BitVec 8) (r : Nat) : Nat → BitVec 8
  | 0 => 0#8
  | k + 1 => Aes.colAcc x c f r k ^^^ Aes.mul (f ((k + 4 - r) % 4)) (x (4 * c + k))
def Aes.column (x : Nat → BitVec 8) (c : Nat) (f : Nat → BitVec 8) (j : Nat) : BitVec 8 :=
  if 4 * c ≤ j ∧ j < 4 * c + 4 then Aes.colAcc x c f (j - 4 * c) 4 else x j
def Aes.fm (j : Nat) : BitVec 8 := if j < 1 then 2#8 else if j < 2 then 3#8 else if j < 3 then 1#8 else 1#8
def Aes.rAdd (W : List (BitVec 32)) (x : Nat → BitVec 8) (r j : Nat) : BitVec 8 := x j ^^^ Aes.byteOf (Aes.gw W (4 * r + j / 4)) (j % 4)
def Aes.rSub (x : Nat → BitVec 8) (j : Nat) : BitVec 8 := Aes.sb (x (4 * ((j / 4 + j % 4) % 4) + j % 4)).toNat
def Aes.rCols (f : Nat → BitVec 8) (y : Nat → BitVec 8) : Nat → Nat → BitVec 8
  | 0 => y
  | c + 1 => Aes.column (Aes.rCols f y c) c f
def Aes.rEnc (W : List (BitVec 32)) (R : Nat) (s : List (BitVec 8)) : Nat → Nat → BitVec 8
  | 0 => Aes.rAdd W (gb s) 0
  | r + 1 => Aes.rAdd W (if r + 1 < R then Aes.rCols Aes.fm (Aes.rSub (Aes.rEnc W R s r)) 4 else Aes.rSub (Aes.rEnc W R s r)) (r + 1)
theorem Aes.rEnc_step (W : List (BitVec 32)) (R : Nat) (s : List (BitVec 8)) (q c : Nat) (h4 : c ≤ 4) (h : q + 1 < R ∨ c = 0) (h2 : c < 4 → ¬ q + 1 < R) (j : Nat) :
    Aes.rAdd W (fun j => Aes.rCols Aes.fm (Aes.rSub (Aes.rEnc W R s q)) c j) (q + 1) j = Aes.rEnc W R s (q + 1) j := by
  show _ = Aes.rAdd W (if q + 1 < R then Aes.rCols Aes.fm (Aes.rSub (Aes.rEnc W R s q)) 4 else Aes.rSub (Aes.rEnc W R s q)) (q + 1) j
  by_cases hq : q + 1 < R
  · obtain rfl : c = 4 := by have := fun h => h2 h hq; omega
    rw [if_pos hq]
  · obtain rfl : c = 0 := by omega
    rw [if_neg hq]
    rfl
theorem refColumn_c (x : Nat → BitVec 8) (c : Nat) (fc : Nat → BitVec 8) (hc : c < 4) (w0 : World) : Calls Tryz.prog 37 #[.agg (arr 16 (fun j => U8 (x j))), .int .i64 ((c : Nat) : Int), .agg (arr 4 (fun j => U8 (fc j)))] w0 fun e w' => e = .returned (.agg (arr 16 (fun j => U8 (Aes.column x c fc j)))) ∧ Below w0.heap.size w0 w' := by
 refine enter (n := 52) Tryz.func37 rfl rfl rfl ?_
 have hk : Below w0.heap.size w0 w0 := Below.refl _ _
 refine sr (w_box (m := 16) (F := fun j => U8 (x j)) ea rfl ?_)
 intro ak w1 ah aa bq
 have bj := gb_ hk.size ah
 clear ah
 replace hk := thenB hk bq
 refine w_box (m := 4) (F := fun j => U8 (fc j)) ea rfl ?_
 intro ay w3 ag ab bp
 have ax := aa.nb ag
 have bl := gb_ hk.size ag
 clear ag
 replace aa := aa.step bp
 replace hk := thenB hk bp
 refine w_alloc (m := 16) (F := fun j => U8 (0#8)) kr ?_
 intro av w5 af ac bk
 have a8 := aa.nb af
 have a0 := ab.nb af
 have bo := gb_ hk.size af
 clear af
 replace aa := aa.step bk
 replace ab := ab.step bk
 replace hk := thenB hk bk
 refine nt (sr (w_alloc (m := 4) (F := fun j => U8 (0#8)) kr ?_))
 intro aj w7 ae ad bh
 have a4 := aa.nb ae
 have a6 := ab.nb ae
 have a5 := ac.nb ae
 have bn := gb_ hk.size ae
 clear ae
 replace aa := aa.step bh
 replace ab := ab.step bh
 replace ac := ac.step bh
 replace hk := thenB hk bh
 refine nt (wp_seq (sr (w_as Ev.c (nt (wp_block ?_)))))
 refine c_loop (fun dN aN wl => ∃ (r : Nat), dN = (4 - r) ∧ ∃ f9, aN = fr 52 f9 ∧ (r ≤ 4) ∧ f9 1 = .int .i64 ((c : Nat) : Int) ∧ f9 3 = pt ak 0 ∧ f9 5 = pt ay 0 ∧ f9 6 = pt av 0 ∧ f9 7 = pt aj 0 ∧ f9 8 = .int .i64 ((r : Nat) : Int) ∧ Row wl ak 74 16 (fun j => U8 (x j)) ∧ Row wl ay 88 4 (fun j => U8 (fc j)) ∧ Row wl av 74 16 (fun j => U8 (0#8)) ∧ Row wl aj 88 4 (fun j => if j < r then (fun j => U8 (Aes.colAcc x c fc j 4)) j else (fun j => U8 (0#8)) j) ∧ Below w0.heap.size w0 wl) (4 - 0) ?_ ?_
 · exact ⟨0, rfl, _, rfl, iv, rfl, rfl, rfl, rfl, rfl, ti, aa, ab, ac, (ad.cg), hk⟩
 ·skip
  clear aa ab ac ad hk
  rintro _ _ bt ⟨r, rfl, f9, rfl, bi, bd, bg, bm, bf, a9, bc, aa, ab, ac, ad, hk⟩
  have bv := bi
  refine wp_seq (sr (w_mv (ei bc) (w_val (y_bin ei Ev.c b_lss) (nt ?_))))
  refine c_if (p := ((r : Nat) : Int) < 4) eb (fun hc11 => ?_) (fun hc11 => ?_)
  ·skip
   refine wp_skip (then_n (wp_seq (wp_block (sr (w_as Ev.c (nt (wp_block ?_)))))))
   refine c_loop (fun dN aN wl => ∃ (k : Nat), dN = (4 - k) ∧ ∃ an, aN = fr 52 an ∧ (k ≤ 4) ∧ an 1 = .int .i64 ((c : Nat) : Int) ∧ an 3 = pt ak 0 ∧ an 5 = pt ay 0 ∧ an 6 = pt av 0 ∧ an 7 = pt aj 0 ∧ an 8 = .int .i64 ((r : Nat) : Int) ∧ an 9 = .int .i64 ((k : Nat) : Int) ∧ Row wl ak 74 16 (fun j => U8 (x j)) ∧ Row wl ay 88 4 (fun j => U8 (fc j)) ∧ Row wl av 74 16 (fun j => U8 (0#8)) ∧ Row wl aj 88 4 (fun j => if j = r then U8 (Aes.colAcc x c fc r k) else (fun j => if j < r then (fun j => U8 (Aes.colAcc x c fc j 4)) j else (fun j => U8 (0#8)) j) j) ∧ Below w0.heap.size w0 wl) (4 - 0) ?_ ?_
   · exact ⟨0, rfl, _, rfl, iv, bd, bg, bm, bf, a9, bc, ti, aa, ab, ac, (ad.cg), hk⟩
   ·skip
    clear aa ab ac ad hk
    rintro _ _ bz ⟨k, rfl, an, rfl, bs, az, a2, a7, bb, ao, am, au, aa, ab, ac, ad, hk⟩
    refine wp_seq (sr (w_mv (ei au) (w_val (y_bin ei Ev.c b_lss) (nt ?_))))
    refine c_if (p := ((k : Nat) : Int) < 4) eb (fun hc14 => ?_) (fun hc14 => ?_)
    ·skip
     refine wp_skip (then_n (wp_seq (wp_block (region_t 20 AesRefAT.mixed kr ?_))))
     simp only [List.take_succ_cons, List.take_zero, List.drop_succ_cons, List.drop_zero]
     refine q_mv (ei am) (q_mv (ei am) (q_val (fun w' hw' => y_ia1z (i := r) (ex (pt aj 0) ao) ei Tryz.underlying88 AesRefAT.sz5 om om) (q_val (v := U8 (Aes.colAcc x c fc r k)) (fun w' hw' => y_ld (ex (pt aj r)) AesRefAT.sc5 (cls_cell (ad.val om (if_pos rfl)) ad.lt w' hw')) (q_mv (ei au) (q_mv (ei am) (q_val (fun w' hw' => y_bin ei ei (b_sub om)) (q_val (fun w' hw' => y_bin ei Ev.c (b_add om)) (q_val (fun w' hw' => y_bin ei Ev.c (b_rem om)) (q_val (fun w' hw' => y_ia1z (i := ((k + 4 - r) % 4)) (ex (pt ay 0) a7) ei Tryz.underlying88 AesRefAT.sz5 om om) (q_val (v := U8 (fc ((k + 4 - r) % 4))) (fun w' hw' => y_ld (ex (pt ay ((k + 4 - r) % 4))) AesRefAT.sc5 (cls_cell (ab.val om rfl) ab.lt w' hw')) (q_mv (ei az) (q_val (fun w' hw' => y_bin Ev.c ei (b_mul om)) (q_mv (ei au) (q_val (fun w' hw' => y_bin ei ei (b_add om)) (q_val (fun w' hw' => y_ia1z (i := ((4 * c) + k)) (ex (pt ak 0) a2) ei Tryz.underlying74 AesRefAT.sz5 om om) (q_val (v := U8 (x ((4 * c) + k))) (fun w' hw' => y_ld (ex (pt ak ((4 * c) + k))) AesRefAT.sc5 (cls_cell (aa.val om rfl) aa.lt w' hw')) (q_call (v := U8 (Aes.mul (fc ((k + 4 - r) % 4)) (x ((4 * c) + k)))) (Tryz.func35) kr rfl (m2 e8 e8) (fun w' hw' => (refMul_c (fc ((k + 4 - r) % 4)) (x ((4 * c) + k)) w').mono fun e w'' he => by obtain ⟨rfl, rfl⟩ := he; exact ⟨rfl, Below.refl _ _⟩) (q_val (fun w' hw' => y_bin e8 e8 xor8) (q_val (fun w' hw' => y_ia1z (i := r) (ex (pt aj 0) ao) ei Tryz.underlying88 AesRefAT.sz5 om om) (q_nil ?_))))))))))))))))))))
     intro bx al
     replace aa := aa.step al
     replace ab := ab.step al
     replace ac := ac.step al
     replace ad := ad.step al
     replace hk := thenB hk al
     refine w_st (v := U8 ((Aes.colAcc x c fc r k) ^^^ (Aes.mul (fc ((k + 4 - r) % 4)) (x ((4 * c) + k))))) (ex (pt aj r)) e8 rfl rfl AesRefAT.sz5 ad om ?_
     clear ad; intro bu ad aq _
     replace aa := aa.stepG aq om
     replace ab := ab.stepG aq om
     replace ac := ac.stepG aq om
     replace hk := thenG hk aq om
     refine wpList_nil (inb_n (then_n (wp_region_lit (w_mv (ei au) (w_val (y_bin ei Ev.c (b_add om)) (w_as ei (wpList_nil ?_)))))))
     exact then_n ⟨_, om, k + 1, rfl, _, rfl, iv, az, a2, a7, bb, ao, am, ti, aa, ab, ac, (ad.cg), hk⟩
    ·skip
     refine wp_exit (then_x (then_x (inb_x (inb_n (then_n (wp_region_lit (w_mv (ei am) (w_val (y_bin ei Ev.c (b_add om)) (w_as ei (wpList_nil ?_))))))))))
     exact then_n ⟨_, om, r + 1, rfl, _, rfl, iv, az, a2, a7, bb, ao, ti, aa, ab, ac, (ad.cg), hk⟩
  ·skip
   refine wp_exit (then_x (then_x (inb_x (then_n (wp_seq (sr (w_as Ev.c (nt (wp_block ?_)))))))))
   refine c_loop (fun dN aN wl => ∃ (q : Nat), dN = (4 - q) ∧ ∃ a1, aN = fr 52 a1 ∧ (q ≤ 4) ∧ a1 1 = .int .i64 ((c : Nat) : Int) ∧ a1 3 = pt ak 0 ∧ a1 6 = pt av 0 ∧ a1 7 = pt aj 0 ∧ a1 10 = .int .i64 ((q : Nat) : Int) ∧ Row wl ak 74 16 (fun j => if (4 * c) ≤ j ∧ j < (4 * c) + q then (fun j => U8 (Aes.colAcc x c fc j 4)) (j - (4 * c)) else (fun j => U8 (x j)) j) ∧ Row wl ay 88 4 (fun j => U8 (fc j)) ∧ Row wl av 74 16 (fun j => U8 (0#8)) ∧ Row wl aj 88 4 (fun j => if j < r then (fun j => U8 (Aes.colAcc x c fc j 4)) j else (fun j => U8 (0#8)) j) ∧ Below w0.heap.size w0 wl) (4 - 0) ?_ ?_
   · exact ⟨0, rfl, _, rfl, iv, bd, bg, bf, a9, ti, (aa.cg), ab, ac, ad, hk⟩
   ·skip
    clear aa ab ac ad hk
    rintro _ _ b0 ⟨q, rfl, a1, rfl, br, ba, aw, a3, be, ai, aa, ab, ac, ad, hk⟩
    refine wp_seq (sr (w_mv (ei ai) (w_val (y_bin ei Ev.c b_lss) (nt ?_))))
    refine c_if (p := ((q : Nat) : Int) < 4) eb (fun hc21 => ?_) (fun hc21 => ?_)
    ·skip
     refine wp_skip (then_n (wp_seq (wp_block (wp_region_lit (w_mv (ei ba) (w_val (y_bin Ev.c ei (b_mul om)) (w_mv (ei ai) (w_val (y_bin ei ei (b_add om)) (w_mv (ei ai) (w_val (y_ia1z (i := q) (ex (pt aj 0) be) ei Tryz.underlying88 AesRefAT.sz5 om om) (w_val (v := U8 (Aes.colAcc x c fc q 4)) (y_ld (ex (pt aj q)) AesRefAT.sc5 (ad.val om ((if_pos om).trans rfl))) (w_val (y_ia1z (i := ((4 * c) + q)) (ex (pt ak 0) aw) ei Tryz.underlying74 AesRefAT.sz5 om om) (w_st (v := U8 (Aes.colAcc x c fc q 4)) (ex (pt ak ((4 * c) + q))) e8 rfl rfl AesRefAT.sz5 aa om ?_)))))))))))))
     clear aa; intro b1 aa ap _
     replace ab := ab.stepG ap om
     replace ac := ac.stepG ap om
     replace ad := ad.stepG ap om
     replace hk := thenG hk ap om
     refine wpList_nil (inb_n (then_n (wp_region_lit (w_mv (ei ai) (w_val (y_bin ei Ev.c (b_add om)) (w_as ei (wpList_nil ?_)))))))
     exact then_n ⟨_, om, q + 1, rfl, _, rfl, iv, ba, aw, a3, be, ti, (aa.cg), ab, ac, ad, hk⟩
    ·skip
     refine wp_exit (then_x (then_x (inb_x (then_n (sr (w_val (v := .agg (arr 16 (fun j => if (4 * c) ≤ j ∧ j < (4 * c) + q then (fun j => U8 (Aes.colAcc x c fc j 4)) (j - (4 * c)) else (fun j => U8 (x j)) j))) (y_lda (ex (pt ak 0) aw) AesRefAT.ag74 AesRefAT.sz74 (fun j hj => by rw [Nat.zero_add]; exact (aa.cell om))) (w_sta (k := 16) (G := fun j => if (4 * c) ≤ j ∧ j < (4 * c) + q then (fun j => U8 (Aes.colAcc x c fc j 4)) (j - (4 * c)) else (fun j => U8 (x j)) j) (ex (pt av 0) a3) ea oc AesRefAT.sz74 ac om ?_)))))))
     clear ac; intro bw ac ar _
     replace ac := ac.congr (g := fun j => if (4 * c) ≤ j ∧ j < (4 * c) + q then (fun j => U8 (Aes.colAcc x c fc j 4)) (j - (4 * c)) else (fun j => U8 (x j)) j) (fun j hj => by rw [if_pos ⟨Nat.zero_le _, by omega⟩]; first | rfl | (simp only [Nat.sub_zero]))
     replace aa := aa.stepG ar om
     replace ab := ab.stepG ar om
     replace ad := ad.stepG ar om
     replace hk := thenG hk ar om
     refine nt (wp_ret (fin_arr (F := fun j => if (4 * c) ≤ j ∧ j < (4 * c) + q then (fun j => U8 (Aes.colAcc x c fc j 4)) (j - (4 * c)) else (fun j => U8 (x j)) j) rfl (ex (pt av 0) a3) AesRefAT.ag74 AesRefAT.sz74 ac om ?_))
     refine ⟨congrArg Ending.returned ?_, hk⟩
     show (.agg (arr 16 (fun j => if (4 * c) ≤ j ∧ j < (4 * c) + q then (fun j => U8 (Aes.colAcc x c fc j 4)) (j - (4 * c)) else (fun j => U8 (x j)) j)) : Value) = .agg (arr 16 (fun j => U8 (Aes.column x c fc j)))
     obtain rfl : q = 4 := by omega
     congr 2; funext j; unfold Aes.column
     split <;> rfl

theorem refAdd_c (bx g n cap : Nat) (W : List (BitVec 32)) (x : Nat → BitVec 8) (r : Nat) (hr : 4 * r + 4 ≤ n) (hn : n ≤ 1000) (w0 : World) (r_bx : Row w0 bx 84 513 (fun j => if j < 256 then U8 (Aes.sb j) else if j < 512 then U8 (Aes.bk (j - 256)) else .slice (some ⟨g, 0, none⟩) n cap)) (r_g : Row w0 g 88 (n * 4) (fun j => U8 (Aes.byteOf (Aes.gw W (j / 4)) (j % 4)))) : Calls Tryz.prog 36 #[pt bx 0, .agg (arr 16 (fun j => U8 (x j))), .int .i64 ((r : Nat) : Int)] w0 fun e w' => e = .returned (.agg (arr 16 (fun j => U8 (Aes.rAdd W x r j)))) ∧ Below w0.heap.size w0 w' := by
 refine enter (n := 33) Tryz.func36 rfl rfl rfl ?_
 have hk : Below w0.heap.size w0 w0 := Below.refl _ _
 have az := r_bx.lt
 have a1 := r_g.lt
 refine sr (w_box (m := 16) (F := fun j => U8 (x j)) ea rfl ?_)
 intro ak w1 ad aa aw
 have al := r_bx.nb ad
 have ap := r_g.nb ad
 have ax := gb_ hk.size ad
 clear ad
 replace r_bx := r_bx.step aw
 replace r_g := r_g.step aw
 replace hk := thenB hk aw
 refine w_alloc (m := 16) (F := fun j => U8 (0#8)) kr ?_
 intro au w3 ac ab av
 have am := r_bx.nb ac
 have ao := r_g.nb ac
 have aj := aa.nb ac
 have ay := gb_ hk.size ac
 clear ac
 replace r_bx := r_bx.step av
 replace r_g := r_g.step av
 replace aa := aa.step av
 replace hk := thenB hk av
 refine nt (wp_seq (sr (w_as Ev.c (nt (wp_block ?_)))))
 refine c_loop (fun dN aN wl => ∃ (i : Nat), dN = (16 - i) ∧ ∃ f5, aN = fr 33 f5 ∧ (i ≤ 16) ∧ f5 0 = pt bx 0 ∧ f5 2 = .int .i64 ((r : Nat) : Int) ∧ f5 4 = pt ak 0 ∧ f5 6 = pt au 0 ∧ f5 7 = .int .i64 ((i : Nat) : Int) ∧ Row wl bx 84 513 (fun j => if j < 256 then U8 (Aes.sb j) else if j < 512 then U8 (Aes.bk (j - 256)) else .slice (some ⟨g, 0, none⟩) n cap) ∧ Row wl g 88 (n * 4) (fun j => U8 (Aes.byteOf (Aes.gw W (j / 4)) (j % 4))) ∧ Row wl ak 74 16 (fun j => if j < i then (fun j => U8 (Aes.rAdd W x r j)) j else (fun j => U8 (x j)) j) ∧ Row wl au 74 16 (fun j => U8 (0#8)) ∧ Below w0.heap.size w0 wl) (16 - 0) ?_ ?_
 · exact ⟨0, rfl, _, rfl, iv, rfl, rfl, rfl, rfl, ti, r_bx, r_g, (aa.cg), ab, hk⟩
 ·skip
  clear r_bx r_g aa ab hk
  rintro _ _ w6 ⟨i, rfl, f5, rfl, a0, ar, aq, ah, ai, ae, r_bx, r_g, aa, ab, hk⟩
  refine wp_seq (sr (w_mv (ei ae) (w_val (y_bin ei Ev.c b_lss) (nt ?_))))
  refine c_if (p := ((i : Nat) : Int) < 16) eb (fun hc7 => ?_) (fun hc7 => ?_)
  ·skip
   refine wp_skip (then_n (wp_seq (wp_block (region_t 20 AesRefAT.mixed kr ?_))))
   simp only [List.take_succ_cons, List.take_zero, List.drop_succ_cons, List.drop_zero]
   refine q_mv (ei ae) (q_mv (ei ae) (q_val (fun w' hw' => y_ia1z (i := i) (ex (pt ak 0) ah) ei Tryz.underlying74 AesRefAT.sz5 om om) (q_val (v := U8 (x i)) (fun w' hw' => y_ld (ex (pt ak i)) AesRefAT.sc5 (cls_cell (aa.val om (ng rfl)) aa.lt w' hw')) (q_mv (ex (pt bx 0) ar) (q_val (fun w' hw' => y_nc (ex (pt bx 0))) (q_val (v := pt bx 512) (fun w' hw' => y_off (y_fa (ex (pt bx 0)) (AesRefAT.fa84_2 _ _)) ro) (q_val (v := .slice (some ⟨g, 0, none⟩) n cap) (fun w' hw' => y_ld (ex (pt bx 512)) AesRefAT.sc82 (cls_cell (r_bx.val om (ng (ng dv))) r_bx.lt w' hw')) (q_mv (ei aq) (q_val (fun w' hw' => y_bin Ev.c ei (b_mul om)) (q_mv (ei ae) (q_val (fun w' hw' => y_bin ei Ev.c (b_quo om)) (q_val (fun w' hw' => y_bin ei ei (b_add om)) (q_mv (ei ae) (q_val (fun w' hw' => y_bin ei Ev.c (b_rem om)) (q_val (v := pt g (((4 * r) + (i / 4)) * 4)) (fun w' hw' => y_off (y_is (i := ((4 * r) + (i / 4))) el ei Tryz.underlying82 AesRefAT.sz88 om om) ro) (q_val (v := pt g ((((4 * r) + (i / 4)) * 4) + (i % 4))) (fun w' hw' => y_off (y_ia1 (i := (i % 4)) (ex (pt g (((4 * r) + (i / 4)) * 4))) ei Tryz.underlying88 AesRefAT.sz5 om om) ro) (q_val (v := U8 (Aes.byteOf (Aes.gw W ((4 * r) + (i / 4))) (i % 4))) (fun w' hw' => y_ld (ex (pt g ((((4 * r) + (i / 4)) * 4) + (i % 4)))) AesRefAT.sc5 (cls_cell (r_g.val om (by (try dsimp only); rw [show ((((4 * r) + (i / 4)) * 4) + (i % 4)) / 4 = ((4 * r) + (i / 4)) from by omega, show ((((4 * r) + (i / 4)) * 4) + (i % 4)) % 4 = (i % 4) from by omega])) r_g.lt w' hw')) (q_val (fun w' hw' => y_bin e8 e8 xor8) (q_val (fun w' hw' => y_ia1z (i := i) (ex (pt ak 0) ah) ei Tryz.underlying74 AesRefAT.sz5 om om) (q_nil ?_))))))))))))))))))))
   intro w8 an
   replace r_bx := r_bx.step an
   replace r_g := r_g.step an
   replace aa := aa.step an
   replace ab := ab.step an
   replace hk := thenB hk an
   refine w_st (v := U8 ((x i) ^^^ (Aes.byteOf (Aes.gw W ((4 * r) + (i / 4))) (i % 4)))) (ex (pt ak i)) e8 rfl rfl AesRefAT.sz5 aa om ?_
   clear aa; intro a2 aa ag _
   replace r_bx := r_bx.stepG ag om
   replace r_g := r_g.stepG ag om
   replace ab := ab.stepG ag om
   replace hk := thenG hk ag om
   refine wpList_nil (inb_n (then_n (wp_region_lit (w_mv (ei ae) (w_val (y_bin ei Ev.c (b_add om)) (w_as ei (wpList_nil ?_)))))))
   exact then_n ⟨_, om, i + 1, rfl, _, rfl, iv, ar, aq, ah, ai, ti, r_bx, r_g, (aa.cg), ab, hk⟩
  ·skip
   refine wp_exit (then_x (then_x (inb_x (then_n (sr (w_val (v := .agg (arr 16 (fun j => if j < i then (fun j => U8 (Aes.rAdd W x r j)) j else (fun j => U8 (x j)) j))) (y_lda (ex (pt ak 0) ah) AesRefAT.ag74 AesRefAT.sz74 (fun j hj => by rw [Nat.zero_add]; exact (aa.cell om))) (w_sta (k := 16) (G := fun j => if j < i then (fun j => U8 (Aes.rAdd W x r j)) j else (fun j => U8 (x j)) j) (ex (pt au 0) ai) ea oc AesRefAT.sz74 ab om ?_)))))))
   clear ab; intro a3 ab af _
   replace ab := ab.congr (g := fun j => if j < i then (fun j => U8 (Aes.rAdd W x r j)) j else (fun j => U8 (x j)) j) (fun j hj => by rw [if_pos ⟨Nat.zero_le _, by omega⟩]; first | rfl | (simp only [Nat.sub_zero]))
   replace r_bx := r_bx.stepG af om
   replace r_g := r_g.stepG af om
   replace aa := aa.stepG af om
   replace hk := thenG hk af om
   refine nt (wp_ret (fin_arr (F := fun j => if j < i then (fun j => U8 (Aes.rAdd W x r j)) j else (fun j => U8 (x j)) j) rfl (ex (pt au 0) ai) AesRefAT.ag74 AesRefAT.sz74 ab om ?_))
   refine ⟨congrArg Ending.returned ?_, hk⟩
   show (.agg (arr 16 (fun j => if j < i then (fun j => U8 (Aes.rAdd W x r j)) j else (fun j => U8 (x j)) j)) : Value) = .agg (arr 16 (fun j => U8 (Aes.rAdd W x r j)))
   exact congrArg Value.agg (arr_congr (fun j hj => by dsimp only; rw [if_pos om]))

theorem refEnc_c (bx g n cap R : Nat) (W : List (BitVec 32)) (s : List (BitVec 8)) (hs : s.length = 16) (hn : n = 4 * (R + 1)) (hR : R ≤ 20) (w0 : World) (r_bx : Row w0 bx 84 513 (fun j => if j < 256 then U8 (Aes.sb j) else if j < 512 then U8 (Aes.bk (j - 256)) else .slice (some ⟨g, 0, none⟩) n cap)) (r_g : Row w0 g 88 (n * 4) (fun j => U8 (Aes.byteOf (Aes.gw W (j / 4)) (j % 4)))) : Calls Tryz.prog 25 #[pt bx 0, .string (str s)] w0 fun e w' => e = .returned (.string (str ((List.range 16).map (Aes.rEnc W R s R)))) ∧ Below w0.heap.size w0 w' := by
 refine enter (n := 78) Tryz.func25 rfl rfl rfl ?_
 have hk : Below w0.heap.size w0 w0 := Below.refl _ _
 have bw := r_bx.lt
 have b2 := r_g.lt
 refine sr (w_as (evc (.string (str ([] : List (BitVec 8))))) (nt (sr (w_alloc (m := 16) (F := fun j => U8 (0#8)) kr ?_))))
 intro af w1 ad aa bp
 have bb := r_bx.nb ad
 have bh := r_g.nb ad
 have bt := gb_ hk.size ad
 clear ad
 replace r_bx := r_bx.step bp
 replace r_g := r_g.step bp
 replace hk := thenB hk bp
 refine nt (wp_seq (sr (w_as Ev.c (nt (wp_block ?_)))))
 refine c_loop (fun dN aN wl => ∃ (i : Nat), dN = (16 - i) ∧ ∃ f3, aN = fr 78 f3 ∧ (i ≤ 16) ∧ f3 0 = pt bx 0 ∧ f3 1 = .string (str s) ∧ f3 4 = .string (str ([] : List (BitVec 8))) ∧ f3 5 = pt af 0 ∧ f3 6 = .int .i64 ((i : Nat) : Int) ∧ Row wl bx 84 513 (fun j => if j < 256 then U8 (Aes.sb j) else if j < 512 then U8 (Aes.bk (j - 256)) else .slice (some ⟨g, 0, none⟩) n cap) ∧ Row wl g 88 (n * 4) (fun j => U8 (Aes.byteOf (Aes.gw W (j / 4)) (j % 4))) ∧ Row wl af 74 16 (fun j => if j < i then (fun j => U8 (gb s j)) j else (fun j => U8 (0#8)) j) ∧ Below w0.heap.size w0 wl) (16 - 0) ?_ ?_
 · exact ⟨0, rfl, _, rfl, iv, rfl, rfl, rfl, rfl, ti, r_bx, r_g, (aa.cg), hk⟩
 ·skip
  clear r_bx r_g aa hk
  rintro _ _ w4 ⟨i, rfl, f3, rfl, bz, a2, bj, bm, an, az, r_bx, r_g, aa, hk⟩
  refine wp_seq (sr (w_mv (ei az) (w_val (y_bin ei Ev.c b_lss) (nt ?_))))
  refine c_if (p := ((i : Nat) : Int) < 16) eb (fun hc5 => ?_) (fun hc5 => ?_)
  ·skip
   refine wp_skip (then_n (wp_seq (wp_block (wp_region_lit (w_mv (ei az) (w_mv (es bj) (w_mv (ei az) (w_val (v := U8 (gb s i)) (y_idx (ex (.string (str s))) ei Tryz.underlying9 om om) (w_val (y_ia1z (i := i) (ex (pt af 0) an) ei Tryz.underlying74 AesRefAT.sz5 om om) (w_st (v := U8 (gb s i)) (ex (pt af i)) e8 rfl rfl AesRefAT.sz5 aa om ?_))))))))))
   clear aa; intro w6 aa bq _
   replace r_bx := r_bx.stepG bq om
   replace r_g := r_g.stepG bq om
   replace hk := thenG hk bq om
   refine wpList_nil (inb_n (then_n (wp_region_lit (w_mv (ei az) (w_val (y_bin ei Ev.c (b_add om)) (w_as ei (wpList_nil ?_)))))))
   exact then_n ⟨_, om, i + 1, rfl, _, rfl, iv, a2, bj, bm, an, ti, r_bx, r_g, (aa.cg), hk⟩
  ·skip
   refine wp_exit (then_x ?_)
   replace aa := aa.congr (g := fun j => U8 (gb s j)) (fun j hj => by dsimp only; rw [if_pos om])
   refine then_x (inb_x (then_n (sr (w_mv (ex (pt bx 0) a2) (w_val (v := .agg (arr 16 (fun j => U8 (gb s j)))) (y_lda (ex (pt af 0) an) AesRefAT.ag74 AesRefAT.sz74 (fun j hj => by rw [Nat.zero_add]; exact (aa.cell om))) (w_call (Tryz.func36) kr rfl (m3 (ex (pt bx 0)) ea Ev.c) (refAdd_c bx g n cap W (fun j => gb s j) 0 om om w4 r_bx r_g) ?_))))))
   rintro _ w8 ⟨rfl, bo⟩
   refine ⟨_, rfl, ?_⟩
   replace r_bx := r_bx.step bo
   replace r_g := r_g.step bo
   replace aa := aa.step bo
   replace hk := thenB hk bo
   refine w_sta (k := 16) (G := fun j => U8 (Aes.rAdd W (fun j => gb s j) 0 j)) (ex (pt af 0) an) ea oc AesRefAT.sz74 aa om ?_
   clear aa; intro b6 aa a9 _
   replace aa := aa.congr (g := fun j => U8 (Aes.rAdd W (fun j => gb s j) 0 j)) (fun j hj => by rw [if_pos ⟨Nat.zero_le _, by omega⟩]; first | rfl | (simp only [Nat.sub_zero]))
   replace r_bx := r_bx.stepG a9 om
   replace r_g := r_g.stepG a9 om
   replace hk := thenG hk a9 om
   refine nt (sr (w_mv (ex (pt bx 0) a2) (w_val (y_nc (ex (pt bx 0))) (w_val (v := pt bx 512) (y_off (y_fa (ex (pt bx 0)) (AesRefAT.fa84_2 _ _)) ro) (w_val (v := .slice (some ⟨g, 0, none⟩) n cap) (y_ld (ex (pt bx 512)) AesRefAT.sc82 (r_bx.val om (ng (ng dv)))) (w_val (v := .int .i64 ((n : Nat) : Int)) (y_len_sl el Tryz.underlying82) (w_val (y_bin ei Ev.c (b_quo om)) (w_val (y_bin ei Ev.c (b_sub om)) (w_as ei (nt (wp_seq (sr (w_as Ev.c (nt (wp_block ?_)))))))))))))))
   refine c_loop (fun dN aN wl => ∃ (q : Nat), dN = (R - q) ∧ ∃ a6, aN = fr 78 a6 ∧ (q ≤ R) ∧ a6 0 = pt bx 0 ∧ a6 4 = .string (str ([] : List (BitVec 8))) ∧ a6 5 = pt af 0 ∧ a6 7 = .int .i64 ((((n : Nat) : Int) / 4) - 1) ∧ a6 8 = .int .i64 (((q + 1) : Nat) : Int) ∧ Row wl bx 84 513 (fun j => if j < 256 then U8 (Aes.sb j) else if j < 512 then U8 (Aes.bk (j - 256)) else .slice (some ⟨g, 0, none⟩) n cap) ∧ Row wl g 88 (n * 4) (fun j => U8 (Aes.byteOf (Aes.gw W (j / 4)) (j % 4))) ∧ Row wl af 74 16 (fun j => U8 (Aes.rEnc W R s q j)) ∧ Below w0.heap.size w0 wl) (R - 0) ?_ ?_
   · exact ⟨0, rfl, _, rfl, iv, a2, bm, an, rfl, ti, r_bx, r_g, (aa.congr (fun j hj => by rfl)), hk⟩
   ·skip
    clear r_bx r_g aa hk
    rintro _ _ ce ⟨q, rfl, a6, rfl, b4, br, bu, be, bd, bn, r_bx, r_g, aa, hk⟩
    refine wp_seq (sr (w_mv (ei bn) (w_mv (ei bd) (w_val (y_bin ei ei b_leq) (nt ?_)))))
    refine c_if (p := (((q + 1) : Nat) : Int) ≤ ((((n : Nat) : Int) / 4) - 1)) eb (fun hc14 => ?_) (fun hc14 => ?_)
    ·skip
     refine wp_skip (then_n (wp_seq (wp_block (sr (w_alloc (m := 16) (F := fun j => U8 (0#8)) kr ?_)))))
     intro ar cf ac ab a1
     have bc := r_bx.nb ac
     have bf := r_g.nb ac
     have a5 := aa.nb ac
     have bs := gb_ hk.size ac
     clear ac
     replace r_bx := r_bx.step a1
     replace r_g := r_g.step a1
     replace aa := aa.step a1
     replace hk := thenB hk a1
     refine nt (wp_seq (sr (w_as Ev.c (nt (wp_block ?_)))))
     refine c_loop (fun dN aN wl => ∃ (k : Nat), dN = (16 - k) ∧ ∃ a3, aN = fr 78 a3 ∧ (k ≤ 16) ∧ a3 0 = pt bx 0 ∧ a3 4 = .string (str ([] : List (BitVec 8))) ∧ a3 5 = pt af 0 ∧ a3 7 = .int .i64 ((((n : Nat) : Int) / 4) - 1) ∧ a3 8 = .int .i64 (((q + 1) : Nat) : Int) ∧ a3 9 = pt ar 0 ∧ a3 10 = .int .i64 ((k : Nat) : Int) ∧ Row wl bx 84 513 (fun j => if j < 256 then U8 (Aes.sb j) else if j < 512 then U8 (Aes.bk (j - 256)) else .slice (some ⟨g, 0, none⟩) n cap) ∧ Row wl g 88 (n * 4) (fun j => U8 (Aes.byteOf (Aes.gw W (j / 4)) (j % 4))) ∧ Row wl af 74 16 (fun j => U8 (Aes.rEnc W R s q j)) ∧ Row wl ar 74 16 (fun j => if j < k then (fun j => U8 (Aes.rSub (Aes.rEnc W R s q) j)) j else (fun j => U8 (0#8)) j) ∧ Below w0.heap.size w0 wl) (16 - 0) ?_ ?_
     · exact ⟨0, rfl, _, rfl, iv, br, bu, be, bd, bn, rfl, ti, r_bx, r_g, aa, (ab.cg), hk⟩
     ·skip
      clear r_bx r_g aa ab hk
      rintro _ _ b9 ⟨k, rfl, a3, rfl, b3, a4, bg, a7, bl, bi, ba, ae, r_bx, r_g, aa, ab, hk⟩
      refine wp_seq (sr (w_mv (ei ae) (w_val (y_bin ei Ev.c b_lss) (nt ?_))))
      refine c_if (p := ((k : Nat) : Int) < 16) eb (fun hc19 => ?_) (fun hc19 => ?_)
      ·skip
       refine wp_skip (then_n (wp_seq (wp_block (region_t 19 AesRefAT.mixed kr ?_))))
       simp only [List.take_succ_cons, List.take_zero, List.drop_succ_cons, List.drop_zero]
       refine q_mv (ei ae) (q_mv (ex (pt bx 0) a4) (q_mv (ei ae) (q_val (fun w' hw' => y_bin ei Ev.c (b_quo om)) (q_mv (ei ae) (q_val (fun w' hw' => y_bin ei Ev.c (b_rem om)) (q_val (fun w' hw' => y_bin ei ei (b_add om)) (q_val (fun w' hw' => y_bin ei Ev.c (b_rem om)) (q_val (fun w' hw' => y_bin Ev.c ei (b_mul om)) (q_mv (ei ae) (q_val (fun w' hw' => y_bin ei Ev.c (b_rem om)) (q_val (fun w' hw' => y_bin ei ei (b_add om)) (q_val (fun w' hw' => y_ia1z (i := ((4 * (((k / 4) + (k % 4)) % 4)) + (k % 4))) (ex (pt af 0) a7) ei Tryz.underlying74 AesRefAT.sz5 om om) (q_val (v := U8 (Aes.rEnc W R s q ((4 * (((k / 4) + (k % 4)) % 4)) + (k % 4)))) (fun w' hw' => y_ld (ex (pt af ((4 * (((k / 4) + (k % 4)) % 4)) + (k % 4)))) AesRefAT.sc5 (cls_cell (aa.val om rfl) aa.lt w' hw')) (q_val (fun w' hw' => y_nc (ex (pt bx 0))) (q_val (v := pt bx 0) (fun w' hw' => y_off (y_fa (ex (pt bx 0)) (AesRefAT.fa84_0 _ _)) ro) (q_val (fun w' hw' => y_ia1z (i := ((Aes.rEnc W R s q ((4 * (((k / 4) + (k % 4)) % 4)) + (k % 4))).toNat)) (ex (pt bx 0)) (ex (.int .u8 ((Aes.rEnc W R s q ((4 * (((k / 4) + (k % 4)) % 4)) + (k % 4))).toNat : Int))) Tryz.underlying81 AesRefAT.sz5 rfl om) (q_val (v := U8 (Aes.sb ((Aes.rEnc W R s q ((4 * (((k / 4) + (k % 4)) % 4)) + (k % 4))).toNat))) (fun w' hw' => y_ld (ex (pt bx ((Aes.rEnc W R s q ((4 * (((k / 4) + (k % 4)) % 4)) + (k % 4))).toNat))) AesRefAT.sc5 (cls_cell (r_bx.val om pz) r_bx.lt w' hw')) (q_val (fun w' hw' => y_ia1z (i := k) (ex (pt ar 0) ba) ei Tryz.underlying74 AesRefAT.sz5 om om) (q_nil ?_)))))))))))))))))))
       intro ca ai
       replace r_bx := r_bx.step ai
       replace r_g := r_g.step ai
       replace aa := aa.step ai
       replace ab := ab.step ai
       replace hk := thenB hk ai
       refine w_st (v := U8 (Aes.sb ((Aes.rEnc W R s q ((4 * (((k / 4) + (k % 4)) % 4)) + (k % 4))).toNat))) (ex (pt ar k)) e8 rfl rfl AesRefAT.sz5 ab om ?_
       clear ab; intro cb ab au _
       replace r_bx := r_bx.stepG au om
       replace r_g := r_g.stepG au om
       replace aa := aa.stepG au om
       replace hk := thenG hk au om
       refine wpList_nil (inb_n (then_n (wp_region_lit (w_mv (ei ae) (w_val (y_bin ei Ev.c (b_add om)) (w_as ei (wpList_nil ?_)))))))
       exact then_n ⟨_, om, k + 1, rfl, _, rfl, iv, a4, bg, a7, bl, bi, ba, ti, r_bx, r_g, aa, (ab.cg), hk⟩
      ·skip
       refine wp_exit (then_x ?_)
       replace ab := ab.congr (g := fun j => U8 (Aes.rSub (Aes.rEnc W R s q) j)) (fun j hj => by dsimp only; rw [if_pos om])
       refine then_x (inb_x (then_n (wp_seq (sr (w_as Ev.c (nt (wp_block ?_)))))))
       refine c_loop (fun dN aN wl => ∃ (c : Nat), dN = (4 - c) ∧ ∃ aw, aN = fr 78 aw ∧ (c ≤ 4) ∧ (q + 1 < R ∨ c = 0) ∧ aw 0 = pt bx 0 ∧ aw 4 = .string (str ([] : List (BitVec 8))) ∧ aw 5 = pt af 0 ∧ aw 7 = .int .i64 ((((n : Nat) : Int) / 4) - 1) ∧ aw 8 = .int .i64 (((q + 1) : Nat) : Int) ∧ aw 9 = pt ar 0 ∧ aw 11 = .int .i64 ((c : Nat) : Int) ∧ Row wl bx 84 513 (fun j => if j < 256 then U8 (Aes.sb j) else if j < 512 then U8 (Aes.bk (j - 256)) else .slice (some ⟨g, 0, none⟩) n cap) ∧ Row wl g 88 (n * 4) (fun j => U8 (Aes.byteOf (Aes.gw W (j / 4)) (j % 4))) ∧ Row wl af 74 16 (fun j => U8 (Aes.rEnc W R s q j)) ∧ Row wl ar 74 16 (fun j => U8 (Aes.rCols Aes.fm (Aes.rSub (Aes.rEnc W R s q)) c j)) ∧ Below w0.heap.size w0 wl) (4 - 0) ?_ ?_
       · exact ⟨0, rfl, _, rfl, iv, iv, a4, bg, a7, bl, bi, ba, ti, r_bx, r_g, aa, (ab.congr (fun j hj => by rfl)), hk⟩
       ·skip
        clear r_bx r_g aa ab hk
        rintro _ _ bv ⟨c, rfl, aw, rfl, b1, b0, am, a8, ao, ay, ah, ap, aj, r_bx, r_g, aa, ab, hk⟩
        refine wp_seq (sr (w_mv (ei aj) (w_val (y_bin ei Ev.c b_lss) (w_mv eb ?_))))
        by_cases ag : ((c : Nat) : Int) < 4
        ·skip
         refine w_val_g (v := .int .i64 (((q + 1) : Nat) : Int)) (wy rfl rfl (eb (dt ag))) (y_mv (ei ah)) (w_val_g (v := .int .i64 ((((n : Nat) : Int) / 4) - 1)) (wy rfl rfl (eb (dt ag))) (y_mv (ei ay)) (w_val_g (wy rfl rfl (eb (dt ag))) (y_bin ei ei b_lss) (w_val (y_pick_t (eb (dt ag)) eb) (nt ?_))))
         refine c_if (p := (((q + 1) : Nat) : Int) < ((((n : Nat) : Int) / 4) - 1)) eb (fun hc27 => ?_) (fun hc27 => ?_)
         ·skip
          refine wp_skip (then_n (wp_seq (wp_block (wp_region_lit (w_val (v := .agg (arr 16 (fun j => U8 (Aes.rCols Aes.fm (Aes.rSub (Aes.rEnc W R s q)) c j)))) (y_lda (ex (pt ar 0) ap) AesRefAT.ag74 AesRefAT.sz74 (fun j hj => by rw [Nat.zero_add]; exact (ab.cell om))) (w_mv (ei aj) (w_val (v := .agg (arr 4 (fun j => U8 (Aes.fm j)))) (y_build (vs := #[(0, U8 (2#8)), (1, U8 (3#8)), (2, U8 (1#8)), (3, U8 (1#8))]) (mp_cons (evc (U8 (2#8))) (mp_cons (evc (U8 (3#8))) (mp_cons (evc (U8 (1#8))) (mp_cons (evc (U8 (1#8))) mp0)))) (fun w => by kernel_rfl)) (w_call (Tryz.func37) kr rfl (m3 ea ei ea) (refColumn_c (fun j => Aes.rCols Aes.fm (Aes.rSub (Aes.rEnc W R s q)) c j) c (fun j => Aes.fm j) om bv) ?_))))))))
          rintro _ b8 ⟨rfl, ak⟩
          refine ⟨_, rfl, ?_⟩
          replace r_bx := r_bx.step ak
          replace r_g := r_g.step ak
          replace aa := aa.step ak
          replace ab := ab.step ak
          replace hk := thenB hk ak
          refine w_sta (k := 16) (G := fun j => U8 (Aes.column (fun j => Aes.rCols Aes.fm (Aes.rSub (Aes.rEnc W R s q)) c j) c (fun j => Aes.fm j) j)) (ex (pt ar 0) ap) ea oc AesRefAT.sz74 ab om ?_
          clear ab; intro cd ab ax _
          replace ab := ab.congr (g := fun j => U8 (Aes.column (fun j => Aes.rCols Aes.fm (Aes.rSub (Aes.rEnc W R s q)) c j) c (fun j => Aes.fm j) j)) (fun j hj => by rw [if_pos ⟨Nat.zero_le _, by omega⟩]; first | rfl | (simp only [Nat.sub_zero]))
          replace r_bx := r_bx.stepG ax om
          replace r_g := r_g.stepG ax om
          replace aa := aa.stepG ax om
          replace hk := thenG hk ax om
          refine wpList_nil (inb_n (then_n (wp_region_lit (w_mv (ei aj) (w_val (y_bin ei Ev.c (b_add om)) (w_as ei (wpList_nil ?_)))))))
          exact then_n ⟨_, om, c + 1, rfl, _, rfl, iv, iv, am, a8, ao, ay, ah, ap, ti, r_bx, r_g, aa, (ab.congr (fun j hj => by rfl)), hk⟩
         ·skip
          refine wp_exit (then_x (then_x (inb_x (then_n (wp_region_lit (w_mv (ex (pt bx 0) am) (w_val (v := .agg (arr 16 (fun j => U8 (Aes.rCols Aes.fm (Aes.rSub (Aes.rEnc W R s q)) c j)))) (y_lda (ex (pt ar 0) ap) AesRefAT.ag74 AesRefAT.sz74 (fun j hj => by rw [Nat.zero_add]; exact (ab.cell om))) (w_mv (ei ah) (w_call (Tryz.func36) kr rfl (m3 (ex (pt bx 0)) ea ei) (refAdd_c bx g n cap W (fun j => Aes.rCols Aes.fm (Aes.rSub (Aes.rEnc W R s q)) c j) (q + 1) om om bv r_bx r_g) ?_)))))))))
          rintro _ ch ⟨rfl, aq⟩
          refine ⟨_, rfl, ?_⟩
          replace r_bx := r_bx.step aq
          replace r_g := r_g.step aq
          replace aa := aa.step aq
          replace ab := ab.step aq
          replace hk := thenB hk aq
          refine w_sta (k := 16) (G := fun j => U8 (Aes.rAdd W (fun j => Aes.rCols Aes.fm (Aes.rSub (Aes.rEnc W R s q)) c j) (q + 1) j)) (ex (pt af 0) ao) ea oc AesRefAT.sz74 aa om ?_
          clear aa; intro b7 aa av _
          replace aa := aa.congr (g := fun j => U8 (Aes.rAdd W (fun j => Aes.rCols Aes.fm (Aes.rSub (Aes.rEnc W R s q)) c j) (q + 1) j)) (fun j hj => by rw [if_pos ⟨Nat.zero_le _, by omega⟩]; first | rfl | (simp only [Nat.sub_zero]))
          replace r_bx := r_bx.stepG av om
          replace r_g := r_g.stepG av om
          replace ab := ab.stepG av om
          replace hk := thenG hk av om
          refine wpList_nil (inb_n (then_n (wp_region_lit (w_mv (ei ah) (w_val (y_bin ei Ev.c (b_add om)) (w_as ei (wpList_nil ?_)))))))
          exact then_n ⟨_, om, q + 1, rfl, _, rfl, iv, am, a8, ao, ay, ti, r_bx, r_g, (aa.congr (fun j hj => by exact congrArg U8 (Aes.rEnc_step W R s q c om om om j))), hk⟩
        ·skip
         with_reducible refine w_skip ?_ ?_
         exact wn rfl rfl (eb (df ag))
         with_reducible refine w_skip ?_ ?_
         exact wn rfl rfl (eb (df ag))
         with_reducible refine w_skip ?_ ?_
         exact wn rfl rfl (eb (df ag))
         refine w_val (y_pick_f (eb (df ag)) Ev.c) (nt (c_ff eb (wp_exit (then_x (then_x (inb_x (then_n (wp_region_lit (w_mv (ex (pt bx 0) am) (w_val (v := .agg (arr 16 (fun j => U8 (Aes.rCols Aes.fm (Aes.rSub (Aes.rEnc W R s q)) c j)))) (y_lda (ex (pt ar 0) ap) AesRefAT.ag74 AesRefAT.sz74 (fun j hj => by rw [Nat.zero_add]; exact (ab.cell om))) (w_mv (ei ah) (w_call (Tryz.func36) kr rfl (m3 (ex (pt bx 0)) ea ei) (refAdd_c bx g n cap W (fun j => Aes.rCols Aes.fm (Aes.rSub (Aes.rEnc W R s q)) c j) (q + 1) om om bv r_bx r_g) ?_))))))))))))
         rintro _ cc ⟨rfl, al⟩
         refine ⟨_, rfl, ?_⟩
         replace r_bx := r_bx.step al
         replace r_g := r_g.step al
         replace aa := aa.step al
         replace ab := ab.step al
         replace hk := thenB hk al
         refine w_sta (k := 16) (G := fun j => U8 (Aes.rAdd W (fun j => Aes.rCols Aes.fm (Aes.rSub (Aes.rEnc W R s q)) c j) (q + 1) j)) (ex (pt af 0) ao) ea oc AesRefAT.sz74 aa om ?_
         clear aa; intro b5 aa a0 _
         replace aa := aa.congr (g := fun j => U8 (Aes.rAdd W (fun j => Aes.rCols Aes.fm (Aes.rSub (Aes.rEnc W R s q)) c j) (q + 1) j)) (fun j hj => by rw [if_pos ⟨Nat.zero_le _, by omega⟩]; first | rfl | (simp only [Nat.sub_zero]))
         replace r_bx := r_bx.stepG a0 om
         replace r_g := r_g.stepG a0 om
         replace ab := ab.stepG a0 om
         replace hk := thenG hk a0 om
         refine wpList_nil (inb_n (then_n (wp_region_lit (w_mv (ei ah) (w_val (y_bin ei Ev.c (b_add om)) (w_as ei (wpList_nil ?_)))))))
         exact then_n ⟨_, om, q + 1, rfl, _, rfl, iv, am, a8, ao, ay, ti, r_bx, r_g, (aa.congr (fun j hj => by exact congrArg U8 (Aes.rEnc_step W R s q c om om om j))), hk⟩
    ·skip
     refine wp_exit (then_x (then_x (inb_x (then_n (sr (w_val (v := .slice (some ⟨af, 0, none⟩) 16 16) (y_sloff (y_slp (ex (pt af 0) be) evo.no evo.no Tryz.underlying74 AesRefAT.sz5 bnd_ om) ro rfl) (w_val (y_str (l := (List.range 16).map (Aes.rEnc W R s q)) el (by simp) Tryz.underlying55 Tryz.underlying5 Tryz.underlying9 (fun j hj => (aa.val om (by (try dsimp only); rw [Nat.zero_add, gb_map _ _ _ hj])))) (w_as es (nt (wp_ret (fin_ret1 rfl es ?_)))))))))))
     refine ⟨congrArg Ending.returned ?_, hk⟩
     show (.string (str ((List.range 16).map (Aes.rEnc W R s q))) : Value) = .string (str ((List.range 16).map (Aes.rEnc W R s R)))
     obtain rfl : q = R := by omega
     rfl
end Go.Proofs.YtdmbfimjbmfbaaaGreatDoor
