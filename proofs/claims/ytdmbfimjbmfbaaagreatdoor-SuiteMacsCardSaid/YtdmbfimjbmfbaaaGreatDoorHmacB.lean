/-
  Tags by their numbers, plainly. Conditions as each says. Digests with a key: writing, again, telling. Conditions as each says.
-/
import Derived.Test.YtdmbfimjbmfbaaaGreatDoorSuPlain
import Derived.Test.YtdmbfimjbmfbaaaGreatDoorCbcC
import Derived.Test.YtdmbfimjbmfbaaaGreatDoorAesRefEq
import Derived.Test.YtdmbfimjbmfbaaaGreatDoorRows
import Derived.Test.YtdmbfimjbmfbaaaGreatDoorHmacA
import Derived.Test.YtdmbfimjbmfbaaaGreatDoorGenSh
import Derived.ProofKit
namespace Go.Proofs.YtdmbfimjbmfbaaaGreatDoor
open Go.RowKit
set_option linter.unusedSimpArgs false
set_option linter.unusedVariables false
namespace Su
abbrev L8 := List (BitVec 8)
theorem mrow (i : Nat) (h14 : 14 ≤ i) (hi : i < 22) : iv i = 0 ∧ 16 ≤ ky i ∧ ky i ≤ 64 ∧ (i < 18 ∧ al i < 114 ∧ ly i = 4 ∨ 18 ≤ i ∧ 114 ≤ al i ∧ ly i = 6) := by
  have : ∀ i, i < 22 → 14 ≤ i → iv i = 0 ∧ 16 ≤ ky i ∧ ky i ≤ 64 ∧ (i < 18 ∧ al i < 114 ∧ ly i = 4 ∨ 18 ≤ i ∧ 114 ≤ al i ∧ ly i = 6) := by decide
  exact this i hi h14
theorem crow (i : Nat) (hi : i < 14) : 0 < iv i := by
  have : ∀ i, i < 14 → 0 < iv i := by decide
  exact this i hi
theorem kn (i : Nat) (h14 : 14 ≤ i) (h18 : i < 18) : Sha.Known (8 * ky i) := by
  have : ∀ i, i < 18 → 14 ≤ i → (8 * ky i = 256 ∨ 8 * ky i = 384 ∨ 8 * ky i = 512) := by decide
  exact this i h18 h14
theorem ok (i : Nat) (h18 : 18 ≤ i) (hi : i < 22) : Aes.okKey (ky i) := by
  have : ∀ i, i < 22 → 18 ≤ i → (ky i = 16 ∨ ky i = 24 ∨ ky i = 32) := by decide
  exact this i hi h18
def mv (i : Nat) (key text : L8) : L8 := (if i < 18 then Hm.mac (8 * key.length) key text else Cb.mac key text).take (tg i)
theorem mv_h (i : Nat) (key text : L8) (h : i < 18) : (Hm.mac (8 * key.length) key text).take (tg i) = mv i key text := by unfold mv; rw [if_pos h]
theorem mv_c (i : Nat) (key text : L8) (h : 18 ≤ i) : (Cb.mac key text).take (tg i) = mv i key text := by unfold mv; rw [if_neg (by omega)]
theorem hl (i : Nat) (key text : L8) (h14 : 14 ≤ i) (hk : key.length = ky i) (h : i < 18) : tg i ≤ (Hm.mac (8 * key.length) key text).length := by
  rw [Hm.mac_len, hk]
  have : ∀ i, i < 18 → 14 ≤ i → tg i ≤ Sha.ol (8 * ky i) := by decide
  exact this i h h14
theorem cl (i : Nat) (key text : L8) (hi : i < 22) (hk : key.length = ky i) (h : 18 ≤ i) : tg i ≤ (Cb.mac key text).length := by
  have e : (Cb.mac key text).length = 16 := Cb.ch_len key Cb.zero16 (Cb.z text) (by rw [hk]; exact ok i h hi) rfl _
  have : ∀ i, i < 22 → 18 ≤ i → tg i ≤ 16 := by decide
  rw [e]
  exact this i hi h
theorem mv_len (i : Nat) (key text : L8) (h14 : 14 ≤ i) (hi : i < 22) (hk : key.length = ky i) : (mv i key text).length = tg i := by
  by_cases h : i < 18
  · rw [← mv_h i key text h, List.length_take]; have := hl i key text h14 hk h; omega
  · rw [← mv_c i key text (by omega), List.length_take]; have := cl i key text hi hk (by omega); omega
theorem mv_le (i : Nat) (key text : L8) (hi : i < 22) : (mv i key text).length ≤ 64 := by
  have : ∀ i, i < 22 → tg i ≤ 64 := by decide
  have := this i hi
  unfold mv
  rw [List.length_take]
  omega
/-- a tag alone, and the error -/
def ms (i : Nat) (key text : L8) : L8 × Int := if key.length ≠ ky i then ([], 3) else if 140000 < text.length then ([], 6) else (mv i key text, 0)
theorem ms_k (i : Nat) (key text : L8) (h : key.length ≠ ky i) : ms i key text = ([], 3) := if_pos h
theorem ms_z (i : Nat) (key text : L8) (h : key.length = ky i) (hz : 140000 < text.length) : ms i key text = ([], 6) := (if_neg (fun e => e h)).trans (if_pos hz)
theorem ms_y (i : Nat) (key text : L8) (h : key.length = ky i) (hz : text.length ≤ 140000) : ms i key text = (mv i key text, 0) := (if_neg (fun e => e h)).trans (if_neg (by omega))
/-- a tag held against it -/
def ce (i : Nat) (key text tag : L8) : Int := if key.length ≠ ky i then 3 else if tag.length ≠ tg i then 5 else if 140000 < text.length then 6 else if mv i key text = tag then 0 else 8
theorem ce_k (i : Nat) (key text tag : L8) (h : key.length ≠ ky i) : ce i key text tag = 3 := if_pos h
theorem ce_t (i : Nat) (key text tag : L8) (h : key.length = ky i) (ht : tag.length ≠ tg i) : ce i key text tag = 5 := (if_neg (fun e => e h)).trans (if_pos ht)
theorem ce_z (i : Nat) (key text tag : L8) (h : key.length = ky i) (ht : tag.length = tg i) (hz : 140000 < text.length) : ce i key text tag = 6 := (if_neg (fun e => e h)).trans ((if_neg (fun e => e ht)).trans (if_pos hz))
theorem ce_y (i : Nat) (key text tag : L8) (h : key.length = ky i) (ht : tag.length = tg i) (hz : text.length ≤ 140000) (hb : mv i key text = tag) : ce i key text tag = 0 := (if_neg (fun e => e h)).trans ((if_neg (fun e => e ht)).trans ((if_neg (by omega)).trans (if_pos hb)))
theorem ce_n (i : Nat) (key text tag : L8) (h : key.length = ky i) (ht : tag.length = tg i) (hz : text.length ≤ 140000) (hb : ¬ mv i key text = tag) : ce i key text tag = 8 := (if_neg (fun e => e h)).trans ((if_neg (fun e => e ht)).trans ((if_neg (by omega)).trans (if_neg hb)))
theorem fin_h (i : Nat) (key text : L8) (h : i < 18) (hk : key.length = ky i) (hz : text.length ≤ 140000) : (Value.tuple #[.string (str ((Hm.mac (8 * key.length) key text).take (tg i))), .int .i64 0]) = .tuple #[.string (str (ms i key text).1), .int .i64 (ms i key text).2] := by rw [ms_y i key text hk hz, mv_h i key text h]
theorem fin_c (i : Nat) (key text : L8) (h : 18 ≤ i) (hk : key.length = ky i) (hz : text.length ≤ 140000) : (Value.tuple #[.string (str ((Cb.mac key text).take (tg i))), .int .i64 0]) = .tuple #[.string (str (ms i key text).1), .int .i64 (ms i key text).2] := by rw [ms_y i key text hk hz, mv_c i key text h]
/-- what the reference tells: a tag of another length is refused ahead of all but the key's length -/
theorem ce_of (i : Nat) (key text tag : L8) (h : key.length = ky i → tag.length = tg i) : ce i key text tag = if (ms i key text).2 = 0 ∧ (ms i key text).1 ≠ tag then 8 else (ms i key text).2 := by
  by_cases hk : key.length = ky i
  · by_cases hz : 140000 < text.length
    · rw [ce_z i key text tag hk (h hk) hz, ms_z i key text hk hz]; rfl
    · rw [ms_y i key text hk (by omega)]
      by_cases hb : mv i key text = tag
      · rw [ce_y i key text tag hk (h hk) (by omega) hb, if_neg (fun e => e.2 hb)]
      · rw [ce_n i key text tag hk (h hk) (by omega) hb, if_pos ⟨rfl, hb⟩]
  · rw [ce_k i key text tag hk, ms_k i key text hk]; rfl
/-- its own tag is right -/
theorem ce_ms (i : Nat) (key text : L8) (h14 : 14 ≤ i) (hi : i < 22) (h : (ms i key text).2 = 0) : ce i key text (ms i key text).1 = 0 := by
  by_cases hk : key.length = ky i
  · by_cases hz : 140000 < text.length
    · rw [ms_z i key text hk hz] at h; exact absurd h (by decide)
    · rw [ms_y i key text hk (by omega)]
      exact ce_y i key text _ hk (mv_len i key text h14 hi hk) (by omega) rfl
  · rw [ms_k i key text hk] at h; exact absurd h (by decide)
end Su
end Go.Proofs.YtdmbfimjbmfbaaaGreatDoor
namespace Go.Proofs.YtdmbfimjbmfbaaaGreatDoor
open Go.RowKit
set_option linter.unusedSimpArgs false
set_option linter.unusedVariables false
set_option maxRecDepth 100000
set_option maxHeartbeats 1000000
namespace HmacBT
theorem mixed : Tryz.prog.follows .mixedOrders = true := by kernel_rfl
theorem fa126_0 (g off : Nat) : ∀ w, (Instr.fieldAt 126 (.pointer (some ⟨g, off, none⟩)) 0).run Tryz.prog w = .ok (.pointer (some ⟨g, off + 0, none⟩)) w := fun w => by kernel_rfl
theorem fa126_1 (g off : Nat) : ∀ w, (Instr.fieldAt 126 (.pointer (some ⟨g, off, none⟩)) 1).run Tryz.prog w = .ok (.pointer (some ⟨g, off + 1, none⟩)) w := fun w => by kernel_rfl
theorem fa126_2 (g off : Nat) : ∀ w, (Instr.fieldAt 126 (.pointer (some ⟨g, off, none⟩)) 2).run Tryz.prog w = .ok (.pointer (some ⟨g, off + 2, none⟩)) w := fun w => by kernel_rfl
theorem sc124 : (Tryz.prog.underlying 124).map scal = some true := by rw [Tryz.underlying124]; rfl
theorem sc5 : (Tryz.prog.underlying 5).map scal = some true := by rw [Tryz.underlying5]; rfl
theorem sz124 : (Tryz.prog.info? 124).map (·.size) = some 1 := by kernel_rfl
theorem sz5 : (Tryz.prog.info? 5).map (·.size) = some 1 := by kernel_rfl
end HmacBT
theorem macWrite_l (kind : Nat) (hkd : Sha.Known kind) (m pi po pn : Nat) (t s : List (BitVec 8)) (h1 : 0 < pn ∧ 1 < pn) (hs : s.length ≤ 140737488351232) (nm : m ≠ pn) (w0 : World) (r_m : Row w0 m 126 3 (fun j => if j < 1 then pt pi 0 else if j < 2 then pt po 0 else pt pn 0)) (hT : Sha.Tabs w0) (hn : Sha.At w0 pn kind t) : Calls Tryz.prog 33 #[pt m 0, .string (str s)] w0 fun e w' => e = .returned (.int .i64 0) ∧ Sha.At w' pn kind (t ++ s) ∧ w0.grownBy w' (some pn) := by
 have ad := hT.lt
 refine enter (n := 20) Tryz.func33 rfl rfl rfl ?_
 have hk : w0.grownBy w0 (some pn) := grown_refl _ _
 have ac := r_m.lt
 refine sr (w_as Ev.c (nt (wp_seq (sr (w_mv (ex (pt m 0)) (w_val (y_bin (ex (pt m 0)) Ev.c (b_eqp Tryz.underlying76)) (w_mv eb (w_val_g (v := pt m 0) (wy rfl rfl eb) (y_mv (ex (pt m 0))) (w_val_g (wy rfl rfl eb) (y_nc (ex (pt m 0))) (w_val_g (v := pt m 2) (wy rfl rfl eb) (y_off (y_fa (ex (pt m 0)) (HmacBT.fa126_2 _ _)) ro) (w_val_g (v := pt pn 0) (wy rfl rfl eb) (y_ld (ex (pt m 2)) HmacBT.sc124 (r_m.val om (ng (ng dv)))) (w_val_g (wy rfl rfl eb) (y_bin (ex (pt pn 0)) Ev.c (b_eqp Tryz.underlying124)) (w_val (y_pick_f eb eb) (nt (c_ff eb (wp_skip (then_n (sr (w_mv (ex (pt m 0)) (w_val (y_nc (ex (pt m 0))) (w_val (v := pt m 2) (y_off (y_fa (ex (pt m 0)) (HmacBT.fa126_2 _ _)) ro) (w_val (v := pt pn 0) (y_ld (ex (pt m 2)) HmacBT.sc124 (r_m.val om (ng (ng dv)))) (w_mv es ?_)))))))))))))))))))))))
 have ab := hn
 clear hn
 refine w_call (Tryz.func51) kr rfl (m2 (ex (pt pn 0)) es) (write_l kind t s w0 pn om hkd om ab hT) ?_
 rintro _ w1 ⟨rfl, hn, aa⟩
 refine ⟨_, rfl, ?_⟩
 replace r_m := r_m.stepG aa om
 replace hk := grown_thenG hk aa om
 replace hT := Sha.Tabs.grown hT aa om om
 refine w_as ei (nt (wp_ret (fin_ret1 rfl ei ?_)))
 exact ⟨rfl, hn, hk⟩

theorem macSum_l (kind : Nat) (hkd : Sha.Known kind) (m pi po pn : Nat) (t u : List (BitVec 8)) (h1 : 0 < pn ∧ 1 < pn) (h2 : 0 < po ∧ 1 < po) (ht : t.length ≤ 1152921504606846976) (hu : u.length ≤ 128) (hne : po ≠ pn) (w0 : World) (r_m : Row w0 m 126 3 (fun j => if j < 1 then pt pi 0 else if j < 2 then pt po 0 else pt pn 0)) (hT : Sha.Tabs w0) (ho : Sha.At w0 po kind u) (hn : Sha.At w0 pn kind t) : Calls Tryz.prog 34 #[pt m 0] w0 fun e w' => e = .returned (.tuple #[.string (str (Sha.sum kind (u ++ (Sha.sum kind t)))), .int .i64 0]) ∧ Below w0.heap.size w0 w' := by
 have am := hT.lt
 have al := Sha.ol_lt kind
 have an := fun x => Sha.length_sum kind x
 refine enter (n := 36) Tryz.func34 rfl rfl rfl ?_
 have hk : Below w0.heap.size w0 w0 := Below.refl _ _
 have ak := r_m.lt
 refine sr (w_as (evc (.string (str ([] : List (BitVec 8))))) (w_as Ev.c (nt (wp_seq (sr (w_mv (ex (pt m 0)) (w_val (y_bin (ex (pt m 0)) Ev.c (b_eqp Tryz.underlying76)) (w_mv eb (w_val_g (v := pt m 0) (wy rfl rfl eb) (y_mv (ex (pt m 0))) (w_val_g (wy rfl rfl eb) (y_nc (ex (pt m 0))) (w_val_g (v := pt m 2) (wy rfl rfl eb) (y_off (y_fa (ex (pt m 0)) (HmacBT.fa126_2 _ _)) ro) (w_val_g (v := pt pn 0) (wy rfl rfl eb) (y_ld (ex (pt m 2)) HmacBT.sc124 (r_m.val om (ng (ng dv)))) (w_val_g (wy rfl rfl eb) (y_bin (ex (pt pn 0)) Ev.c (b_eqp Tryz.underlying124)) (w_val (y_pick_f eb eb) (nt (c_ff eb (wp_skip (then_n (sr (w_mv (ex (pt m 0)) (w_val (y_nc (ex (pt m 0))) (w_val (v := pt m 2) (y_off (y_fa (ex (pt m 0)) (HmacBT.fa126_2 _ _)) ro) (w_val (v := pt pn 0) (y_ld (ex (pt m 2)) HmacBT.sc124 (r_m.val om (ng (ng dv)))) (w_call (Tryz.func53) kr rfl (m1 (ex (pt pn 0))) (sum_l kind t w0 pn om hkd (by (try simp only [List.nil_append, List.length_append, List.length_nil, Sha.length_sum]); omega) hn hT) ?_))))))))))))))))))))))))
 rintro _ w1 ⟨rfl, ac⟩
 refine ⟨_, rfl, ?_⟩
 replace r_m := r_m.step ac
 replace hk := thenB hk ac
 replace hT := Sha.Tabs.below hT ac
 replace ho := Sha.At.below ho ac
 replace hn := Sha.At.below hn ac
 refine w_mv (ex (.tuple #[.string (str (Sha.sum kind t)), .int .i64 0])) (w_val ye (w_val ye (w_as es (w_as ei (nt (sr (w_mv (ex (pt m 0)) (w_val (y_nc (ex (pt m 0))) (w_val (v := pt m 1) (y_off (y_fa (ex (pt m 0)) (HmacBT.fa126_1 _ _)) ro) (w_val (v := pt po 0) (y_ld (ex (pt m 1)) HmacBT.sc124 (r_m.val om (ng pz))) (w_call (Tryz.func52) kr rfl (m1 (ex (pt po 0))) (copy_l kind u w1 po om hkd ho) ?_)))))))))))
 rintro _ w3 ⟨ph, rfl, ah, hh, aa⟩
 refine ⟨_, rfl, ?_⟩
 have ag : m ≠ ph := by have := r_m.lt; omega
 have ae : po ≠ ph := by have := ho.lt; omega
 have ad : pn ≠ ph := by have := hn.lt; omega
 have ai : w0.heap.size ≤ ph := by have := hk.size; omega
 replace r_m := r_m.step aa
 replace hk := thenB hk aa
 replace hT := Sha.Tabs.below hT aa
 replace ho := Sha.At.below ho aa
 replace hn := Sha.At.below hn aa
 refine w_as (ex (pt ph 0)) (nt (sr (w_mv (ex (pt ph 0)) (w_mv es ?_))))
 have aj := hh
 clear hh
 refine w_call (Tryz.func51) kr rfl (m2 (ex (pt ph 0)) es) (write_l kind u (Sha.sum kind t) w3 ph om hkd (by rw [Sha.length_sum]; omega) aj hT) ?_
 rintro _ w4 ⟨rfl, hh, af⟩
 refine ⟨_, rfl, ?_⟩
 replace r_m := r_m.stepG af om
 replace hk := thenG hk af om
 replace hT := Sha.Tabs.grown hT af om om
 replace ho := Sha.At.grown ho af om
 replace hn := Sha.At.grown hn af om
 refine nt (sr (w_mv (ex (pt ph 0)) (w_call (Tryz.func53) kr rfl (m1 (ex (pt ph 0))) (sum_l kind (u ++ (Sha.sum kind t)) w4 ph om hkd (by (try simp only [List.nil_append, List.length_append, List.length_nil, Sha.length_sum]); omega) hh hT) ?_)))
 rintro _ w5 ⟨rfl, ab⟩
 refine ⟨_, rfl, ?_⟩
 replace r_m := r_m.step ab
 replace hk := thenB hk ab
 replace hT := Sha.Tabs.below hT ab
 replace ho := Sha.At.below ho ab
 replace hn := Sha.At.below hn ab
 replace hh := Sha.At.below hh ab
 refine w_val ye (w_val ye (w_as es (w_as ei (nt (wp_ret (fin_ret2 rfl es ei ?_))))))
 exact ⟨rfl, hk⟩
end Go.Proofs.YtdmbfimjbmfbaaaGreatDoor
