/-
  Steps of a walk, part 2: values of operations on words and numbers, texts, memory, calls. No conditions.
-/
import Derived.Test.YtdmbfimjbmfbaaaGreatDoorGen
import Derived.IntWalk
import Derived.Laws.IdiomStrings
import Derived.Deep.OwnRows
import Derived.Conc.MuLone
namespace Go.Proofs.YtdmbfimjbmfbaaaGreatDoor
open Go.RowKit
set_option linter.unusedSimpArgs false
set_option linter.unusedVariables false
section
variable {P : Program} {ops : Array Oper} {Q : Exit → Act → World → Prop} {w : World} {rest : List Oper} {n : Nat} {f : Nat → Value}
variable {ty : TypeId} {x y z : Operand} {v vx vy vz : Value} {t : TypeId}
theorem guard_int {op : BinOp} {X Y : Operand} {k : IntKind} {a : Int} {b : Value} : eqGuard op t X Y (.int k a) b = pure () := by cases op <;> rfl
theorem guard_str {op : BinOp} {X Y : Operand} {a : ByteArray} {b : Value} : eqGuard op t X Y (.string a) b = pure () := by cases op <;> rfl
theorem guard_ptr {op : BinOp} {X Y : Operand} {a : Option Addr} {b : Value} : eqGuard op t X Y (.pointer a) b = pure () := by cases op <;> rfl
theorem bin_of {op : BinOp} (hg : ∀ X Y, eqGuard op t X Y vx vy = pure ()) (hb : ∀ w, (binOp op t vx vy).run P w = .ok v w) : Bin P op t vx vy v := by
  intro X Y w
  rw [hg X Y]
  exact hb w
theorem bin_int {op : BinOp} {k : IntKind} {a : Int} (hb : binOp op t (.int k a) vy = pure v) : Bin P op t (.int k a) vy v :=
  bin_of (fun _ _ => guard_int) (fun w => by rw [hb]; rfl)
/-! int -/
variable {a b : Int}
theorem b_add (h : -9223372036854775808 ≤ a + b ∧ a + b ≤ 9223372036854775807) : Bin P .add t (.int .i64 a) (.int .i64 b) (.int .i64 (a + b)) :=
  bin_int (by rw [binOp_add, Op.intArith, IntWalk.i64_in _ h])
theorem b_sub (h : -9223372036854775808 ≤ a - b ∧ a - b ≤ 9223372036854775807) : Bin P .sub t (.int .i64 a) (.int .i64 b) (.int .i64 (a - b)) :=
  bin_int (by rw [binOp_sub, Op.intArith, IntWalk.i64_in _ h])
theorem b_mul (h : -9223372036854775808 ≤ a * b ∧ a * b ≤ 9223372036854775807) : Bin P .mul t (.int .i64 a) (.int .i64 b) (.int .i64 (a * b)) :=
  bin_int (by rw [binOp_mul, Op.intArith, IntWalk.i64_in _ h])
theorem b_quo (h : 0 ≤ a ∧ a ≤ 9223372036854775807 ∧ 1 ≤ b) : Bin P .quo t (.int .i64 a) (.int .i64 b) (.int .i64 (a / b)) :=
  bin_int (by rw [binOp_quo, Op.intDiv, if_neg (by omega), IntWalk.i64_quo _ _ h])
theorem b_rem (h : 0 ≤ a ∧ 1 ≤ b) : Bin P .rem t (.int .i64 a) (.int .i64 b) (.int .i64 (a % b)) :=
  bin_int (by rw [binOp_rem, Op.intDiv, if_neg (by omega), IntWalk.rem_in _ _ h.1])
theorem b_shr {yk : IntKind} {c : Nat} (hc : b = (c : Int)) (hc2 : c ≤ 64) : Bin P .shr t (.int .i64 a) (.int yk b) (.int .i64 (a / 2 ^ c)) :=
  bin_int (by
    subst hc
    have e : min c 64 = c := by omega
    rw [binOp_shr, Op.shift, if_neg (by omega)]
    simp only [Int.toNat_natCast, IntKind.bits, e]
    rw [Int.fdiv_eq_ediv_of_nonneg _ (by exact Int.pow_nonneg (by decide))])
theorem b_lss {k : IntKind} : Bin P .lss t (.int k a) (.int k b) (.bool (decide (a < b))) := bin_int (by rw [binOp_lss])
theorem b_leq {k : IntKind} : Bin P .leq t (.int k a) (.int k b) (.bool (decide (a ≤ b))) := bin_int (by rw [binOp_leq])
theorem b_gtr {k : IntKind} : Bin P .gtr t (.int k a) (.int k b) (.bool (decide (b < a))) := bin_int (by rw [binOp_gtr])
theorem b_geq {k : IntKind} : Bin P .geq t (.int k a) (.int k b) (.bool (decide (b ≤ a))) := bin_int (by rw [binOp_geq])
theorem b_eql {k : IntKind} : Bin P .eql t (.int k a) (.int k b) (.bool (decide (a = b))) := bin_int (by rw [binOp_eql]; rfl)
theorem b_neq {k : IntKind} : Bin P .neq t (.int k a) (.int k b) (.bool (decide (a ≠ b))) := bin_int (by
  rw [binOp_neq]
  congr 2
  by_cases h : a = b <;> simp [h])
/-- bits of small numbers -/
theorem b_and {p q : Nat} (ha : a = (p : Int)) (hb : b = (q : Int)) (h1 : p < 9223372036854775808) (h2 : q < 9223372036854775808) : Bin P .and t (.int .i64 a) (.int .i64 b) (.int .i64 ((p &&& q : Nat) : Int)) :=
  bin_int (by
    subst ha hb
    rw [binOp_and]
    have h3 : p &&& q < 9223372036854775808 := Nat.lt_of_le_of_lt Nat.and_le_left h1
    have e : ((BitVec.ofInt 64 (p : Int)) &&& (BitVec.ofInt 64 (q : Int))).toNat = p &&& q := by
      simp only [BitVec.toNat_and, BitVec.toNat_ofInt]
      congr 1 <;> omega
    have e2 : ∀ m : Nat, m < 9223372036854775808 → IntKind.i64.wrap (m : Int) = m := fun m hm => IntWalk.i64_in _ (by omega)
    show pure (Value.int .i64 (IntKind.i64.wrap (((BitVec.ofInt 64 (p : Int)) &&& (BitVec.ofInt 64 (q : Int))).toNat : Int))) = _
    rw [e, e2 _ (by omega)])
/-! U8 -/
variable {p8 q8 : BitVec 8}
theorem mul8 : Bin P .mul t (U8 p8) (U8 q8) (U8 (p8 * q8)) := bin_int (mul_U8 t p8 q8)
theorem or8 : Bin P .or t (U8 p8) (U8 q8) (U8 (p8 ||| q8)) := bin_int (or_U8 t p8 q8)
theorem xor8 : Bin P .xor t (U8 p8) (U8 q8) (U8 (p8 ^^^ q8)) := bin_int (xor_U8 t p8 q8)
theorem eql8 : Bin P .eql t (U8 p8) (U8 q8) (.bool (decide (p8 = q8))) := bin_int ((eql_U8 t p8 q8).trans (by congr 2))
theorem shl8 {yk : IntKind} {c : Nat} (hc : b = (c : Int)) : Bin P .shl t (U8 p8) (.int yk b) (U8 (p8 <<< c)) := bin_int (by subst hc; exact shl_U8 t p8 yk c (by omega))
theorem shr8 {yk : IntKind} {c : Nat} (hc : b = (c : Int)) : Bin P .shr t (U8 p8) (.int yk b) (U8 (p8 >>> c)) := bin_int (by subst hc; exact shr_U8 t p8 yk c (by omega))
/-! U32 -/
variable {p32 q32 : BitVec 32}
theorem add32 : Bin P .add t (U32 p32) (U32 q32) (U32 (p32 + q32)) := bin_int (add_U32 t p32 q32)
theorem and32 : Bin P .and t (U32 p32) (U32 q32) (U32 (p32 &&& q32)) := bin_int (and_U32 t p32 q32)
theorem or32 : Bin P .or t (U32 p32) (U32 q32) (U32 (p32 ||| q32)) := bin_int (or_U32 t p32 q32)
theorem xor32 : Bin P .xor t (U32 p32) (U32 q32) (U32 (p32 ^^^ q32)) := bin_int (xor_U32 t p32 q32)
theorem shl32 {yk : IntKind} {c : Nat} (hc : b = (c : Int)) : Bin P .shl t (U32 p32) (.int yk b) (U32 (p32 <<< c)) := bin_int (by subst hc; exact shl_U32 t p32 yk c (by omega))
theorem shr32 {yk : IntKind} {c : Nat} (hc : b = (c : Int)) : Bin P .shr t (U32 p32) (.int yk b) (U32 (p32 >>> c)) := bin_int (by subst hc; exact shr_U32 t p32 yk c (by omega))
/-! U64 -/
variable {p64 q64 : BitVec 64}
theorem add64 : Bin P .add t (U64 p64) (U64 q64) (U64 (p64 + q64)) := bin_int (add_U64 t p64 q64)
theorem sub64 : Bin P .sub t (U64 p64) (U64 q64) (U64 (p64 - q64)) := bin_int (sub_U64 t p64 q64)
theorem mul64 : Bin P .mul t (U64 p64) (U64 q64) (U64 (p64 * q64)) := bin_int (mul_U64 t p64 q64)
theorem and64 : Bin P .and t (U64 p64) (U64 q64) (U64 (p64 &&& q64)) := bin_int (and_U64 t p64 q64)
theorem or64 : Bin P .or t (U64 p64) (U64 q64) (U64 (p64 ||| q64)) := bin_int (or_U64 t p64 q64)
theorem xor64 : Bin P .xor t (U64 p64) (U64 q64) (U64 (p64 ^^^ q64)) := bin_int (xor_U64 t p64 q64)
theorem lss64 : Bin P .lss t (U64 p64) (U64 q64) (.bool (decide (p64.toNat < q64.toNat))) := bin_int (lss_U64 t p64 q64)
theorem leq64 : Bin P .leq t (U64 p64) (U64 q64) (.bool (decide (p64.toNat ≤ q64.toNat))) := bin_int (leq_U64 t p64 q64)
theorem gtr64 : Bin P .gtr t (U64 p64) (U64 q64) (.bool (decide (q64.toNat < p64.toNat))) := bin_int (gtr_U64 t p64 q64)
theorem eql64 : Bin P .eql t (U64 p64) (U64 q64) (.bool (decide (p64 = q64))) := bin_int ((eql_U64 t p64 q64).trans (by congr 2))
theorem neq64 : Bin P .neq t (U64 p64) (U64 q64) (.bool (decide (p64 ≠ q64))) := bin_int ((neq_U64 t p64 q64).trans (by congr 2; by_cases h : p64 = q64 <;> simp [h]))
theorem shl64 {yk : IntKind} {c : Nat} (hc : b = (c : Int)) : Bin P .shl t (U64 p64) (.int yk b) (U64 (p64 <<< c)) := bin_int (by subst hc; exact shl_U64 t p64 yk c (by omega))
theorem shr64 {yk : IntKind} {c : Nat} (hc : b = (c : Int)) : Bin P .shr t (U64 p64) (.int yk b) (U64 (p64 >>> c)) := bin_int (by subst hc; exact shr_U64 t p64 yk c (by omega))
theorem rem64 (h : q64 ≠ 0) : Bin P .rem t (U64 p64) (U64 q64) (U64 (p64 % q64)) := bin_int (by
  have h0 : q64.toNat ≠ 0 := fun e => h (BitVec.eq_of_toNat_eq (by simpa using e))
  simp only [U64, binOp_rem, Op.intDiv]
  rw [if_neg (by omega), IntWalk.rem_in _ _ (by omega), BitVec.toNat_umod]; rfl)
theorem y_not64 {t : TypeId} (hx : Ev n f x (U64 p64)) : Yields P n f (.unOp .xor t x) ty w (U64 (~~~p64)) := y_un hx (by rw [not_U64]; rfl)
/-! conversions -/
theorem cv_int {s d : TypeId} {k : IntKind} {c : Int} (k' : IntKind) (hs : (P.underlying s).isSome = true) (hd : P.underlying d = some (.int k')) : (convert s d (.int k c)).run P w = .ok (.int k' (k'.wrap c)) w := by
  obtain ⟨ds, hs'⟩ := Option.isSome_iff_exists.1 hs
  unfold convert
  rw [Sem.run_bind, run_underlying hs']
  simp only [Result.andThen_ok]
  rw [Sem.run_bind, run_underlying hd]
  simp only [Result.andThen_ok]
  rfl
theorem y_int_u8 {s d : TypeId} {kx : IntKind} (hx : Ev n f x (.int kx a)) (hs : (P.underlying s).isSome = true) (hd : P.underlying d = some (.int .u8)) : Yields P n f (.convert s d x) ty w (U8 (BitVec.ofInt 8 a)) :=
  y_conv hx (by rw [cv_int .u8 hs hd, wrap_u8]; rfl)
theorem y_nat_u8 {s d : TypeId} {kx : IntKind} {p : Nat} (hx : Ev n f x (.int kx a)) (hp : a = (p : Int)) (hs : (P.underlying s).isSome = true) (hd : P.underlying d = some (.int .u8)) : Yields P n f (.convert s d x) ty w (U8 (BitVec.ofNat 8 p)) := by
  subst hp
  have := y_int_u8 (ty := ty) (w := w) hx hs hd
  rwa [BitVec.ofInt_natCast] at this
theorem y_u8_u32 {s d : TypeId} (hx : Ev n f x (U8 p8)) (hs : (P.underlying s).isSome = true) (hd : P.underlying d = some (.int .u32)) : Yields P n f (.convert s d x) ty w (U32 (p8.setWidth 32)) :=
  y_conv hx (by
    unfold U8
    rw [cv_int .u32 hs hd, wrap_u32, BitVec.ofInt_natCast, BitVec.ofNat_toNat]
    try rfl)
theorem y_u8_u64 {s d : TypeId} (hx : Ev n f x (U8 p8)) (hs : (P.underlying s).isSome = true) (hd : P.underlying d = some (.int .u64)) : Yields P n f (.convert s d x) ty w (U64 (p8.setWidth 64)) :=
  y_conv hx (by
    unfold U8
    rw [cv_int .u64 hs hd, wrap_u64, BitVec.ofInt_natCast, BitVec.ofNat_toNat]
    try rfl)
theorem y_u32_u64 {s d : TypeId} (hx : Ev n f x (U32 p32)) (hs : (P.underlying s).isSome = true) (hd : P.underlying d = some (.int .u64)) : Yields P n f (.convert s d x) ty w (U64 (p32.setWidth 64)) :=
  y_conv hx (by
    unfold U32
    rw [cv_int .u64 hs hd, wrap_u64, BitVec.ofInt_natCast, BitVec.ofNat_toNat]
    try rfl)
theorem y_int_u64 {s d : TypeId} {kx : IntKind} (hx : Ev n f x (.int kx a)) (hs : (P.underlying s).isSome = true) (hd : P.underlying d = some (.int .u64)) : Yields P n f (.convert s d x) ty w (U64 (BitVec.ofInt 64 a)) :=
  y_conv hx (by rw [cv_int .u64 hs hd, wrap_u64]; rfl)
theorem y_nat_u64 {s d : TypeId} {kx : IntKind} {p : Nat} (hx : Ev n f x (.int kx a)) (hp : a = (p : Int)) (hs : (P.underlying s).isSome = true) (hd : P.underlying d = some (.int .u64)) : Yields P n f (.convert s d x) ty w (U64 (BitVec.ofNat 64 p)) := by
  subst hp
  have := y_int_u64 (ty := ty) (w := w) hx hs hd
  rwa [BitVec.ofInt_natCast] at this
theorem y_u64_u8 {s d : TypeId} (hx : Ev n f x (U64 p64)) (hs : (P.underlying s).isSome = true) (hd : P.underlying d = some (.int .u8)) : Yields P n f (.convert s d x) ty w (U8 (p64.setWidth 8)) :=
  y_conv hx (by
    unfold U64
    rw [cv_int .u8 hs hd, wrap_u8, BitVec.ofInt_natCast, BitVec.ofNat_toNat]
    try rfl)
theorem y_u64_u32 {s d : TypeId} (hx : Ev n f x (U64 p64)) (hs : (P.underlying s).isSome = true) (hd : P.underlying d = some (.int .u32)) : Yields P n f (.convert s d x) ty w (U32 (p64.setWidth 32)) :=
  y_conv hx (by
    unfold U64
    rw [cv_int .u32 hs hd, wrap_u32, BitVec.ofInt_natCast, BitVec.ofNat_toNat]
    try rfl)
/-! bools -/
/-! nil -/
theorem b_eqp {p : Option Addr} (ht : P.underlying t = some (.pointer (P.pointee t))) : Bin P .eql t (.pointer p) (.pointer none) (.bool p.isNone) :=
  bin_of (fun _ _ => guard_ptr) (fun w => run_eql_pointer_nil w t p ht)
theorem y_not {t : TypeId} {p : Bool} (hx : Ev n f x (.bool p)) : Yields P n f (.unOp .not t x) ty w (.bool (!p)) := y_un hx rfl
/-! texts -/
theorem b_cat {p q : List (BitVec 8)} (h : p.length + q.length ≤ 9223372036854775807) : Bin P .add t (.string (str p)) (.string (str q)) (.string (str (p ++ q))) :=
  bin_of (fun _ _ => guard_str) (fun w => by
    rw [binOp_string_add, Op.stringOp]
    simp only [size_str]
    rw [if_neg (by simp only [IntKind.max, IntKind.bits, IntKind.signed]; simp; omega), str_append]
    rfl)
theorem b_eqs {p q : List (BitVec 8)} : Bin P .eql t (.string (str p)) (.string (str q)) (.bool (decide (p = q))) :=
  bin_of (fun _ _ => guard_str) (fun w => by
    rw [binOp_string_eql, toList_beq, byt_str, byt_str, show (p == q) = decide (p = q) from by rw [Bool.eq_iff_iff]; simp]
    rfl)
theorem b_nes {p q : List (BitVec 8)} : Bin P .neq t (.string (str p)) (.string (str q)) (.bool (decide (p ≠ q))) :=
  bin_of (fun _ _ => guard_str) (fun w => by
    rw [binOp_string_neq, toList_beq, byt_str, byt_str, show (!(p == q)) = decide (p ≠ q) from by rw [Bool.eq_iff_iff]; simp]
    rfl)
theorem y_idx {l : List (BitVec 8)} {k : IntKind} {i : Nat} (hx : Ev n f x (.string (str l))) (hy : Ev n f y (.int k a)) (ht : P.underlying t = some .string) (hi : a = (i : Int)) (hlt : i < l.length) : Yields P n f (.index t x y) ty w (U8 (gb l i)) := by
  have h1 : (fr n f).eval x = .string (str l) := hx
  have h2 : (fr n f).eval y = .int k a := hy
  subst hi
  unfold Yields execOp
  simp only [h1, h2]
  have e := run_strAt P w t (str l) k i ht
  rw [if_pos ⟨by omega, by rw [size_str]; omega⟩, byt_str, Int.toNat_natCast] at e
  rw [Sem.run_bind, index_strAt, e]
  rfl
theorem sb_ok {k : IntKind} {c : Nat} {m : Nat} {code : BoundsCode} (ha : a = (c : Int)) (h : c ≤ m) : (Instr.sliceBound (.int k a) m code).run P w = .ok c w := by
  subst ha
  have h0 : (0 : Int) ≤ c ∧ (c : Int) ≤ m := ⟨by omega, by omega⟩
  have h1 : c ≤ m := h
  simp [Instr.sliceBound, asIntOf, h1]
/-- bounds of a slice expression -/
def Bnd (P : Program) (isSlice : Bool) (len cap : Nat) (lo hi : Option Value) (l h : Nat) : Prop := ∀ w, (Instr.sliceBounds isSlice len cap lo hi none).run P w = .ok (l, h, cap) w
theorem bnd_lh {s : Bool} {len cap l h : Nat} {k k' : IntKind} {c : Int} (hl : a = (l : Int)) (hh : c = (h : Int)) (h1 : l ≤ h) (h2 : h ≤ cap) : Bnd P s len cap (some (.int k a)) (some (.int k' c)) l h := fun w => by
  cases s <;> simp [Instr.sliceBounds, Sem.run_bind, sb_ok hl h1, sb_ok hh h2]
theorem bnd_l {s : Bool} {len cap l : Nat} {k : IntKind} (hl : a = (l : Int)) (h1 : l ≤ len) : Bnd P s len cap (some (.int k a)) none l len := fun w => by
  cases s <;> simp [Instr.sliceBounds, Sem.run_bind, sb_ok hl h1]
theorem bnd_h {s : Bool} {len cap h : Nat} {k' : IntKind} {c : Int} (hh : c = (h : Int)) (h2 : h ≤ cap) : Bnd P s len cap none (some (.int k' c)) 0 h := fun w => by
  cases s <;> simp [Instr.sliceBounds, Sem.run_bind, sb_ok hh h2]
theorem bnd_ {s : Bool} {len cap : Nat} : Bnd P s len cap none none 0 len := fun w => by
  cases s <;> simp [Instr.sliceBounds, Sem.run_bind]
def evo (n : Nat) (f : Nat → Value) (x : Option Operand) (v : Option Value) : Prop := x.map (fr n f).eval = v
theorem evo.no : evo n f none none := rfl
theorem evo.s (h : Ev n f x v) : evo n f (some x) (some v) := congrArg some h
theorem str_extract (s : List (BitVec 8)) (l h : Nat) : (str s).extract l h = str ((s.drop l).take (h - l)) := by
  apply byt_inj
  rw [byt_extract, byt_str, byt_str]
theorem y_sls {s : List (BitVec 8)} {lo hi : Option Operand} {vl vh : Option Value} {l h : Nat} (hx : Ev n f x (.string (str s))) (hl : evo n f lo vl) (hh : evo n f hi vh) (ht : P.underlying t = some .string) (hb : Bnd P false s.length s.length vl vh l h) :
    Yields P n f (.slice t x lo hi none) ty w (.string (str ((s.drop l).take (h - l)))) := by
  have h1 : (fr n f).eval x = .string (str s) := hx
  have h2 : lo.map (fr n f).eval = vl := hl
  have h3 : hi.map (fr n f).eval = vh := hh
  have e := hb w
  unfold Yields execOp
  simp only [h1, h2, h3]
  simp [Instr.sliceAt, Instr.slice, Sem.run_bind, run_underlying ht, size_str, e, str_extract]
/-- a slice of a slice; of an array behind a pointer -/
theorem y_slv {e : TypeId} {g off len cap : Nat} {lo hi : Option Operand} {vl vh : Option Value} {l h : Nat} (hx : Ev n f x (.slice (some ⟨g, off, none⟩) len cap)) (hl : evo n f lo vl) (hh : evo n f hi vh) (ht : P.underlying t = some (.slice e))
    (hi1 : (P.info? e).map (·.size) = some 1) (hb : Bnd P true len cap vl vh l h) (hlt : l < cap) : Yields P n f (.slice t x lo hi none) ty w (.slice (some ⟨g, off + l, none⟩) (h - l) (cap - l)) := by
  have h1 : (fr n f).eval x = .slice (some ⟨g, off, none⟩) len cap := hx
  have h2 : lo.map (fr n f).eval = vl := hl
  have h3 : hi.map (fr n f).eval = vh := hh
  have e' := hb w
  obtain ⟨i, hq, hs⟩ := Option.map_eq_some_iff.1 hi1
  have hsz : (sizeOf e).run P w = .ok 1 w := by simp [sizeOf, typeInfo, hq, hs]
  unfold Yields execOp
  simp only [h1, h2, h3]
  simp [Instr.sliceAt, Instr.slice, Sem.run_bind, run_underlying ht, e', hsz, show ¬ cap = l from by omega, Addr.add_lit]
theorem y_slp {e : TypeId} {g off m : Nat} {lo hi : Option Operand} {vl vh : Option Value} {l h : Nat} (hx : Ev n f x (.pointer (some ⟨g, off, none⟩))) (hl : evo n f lo vl) (hh : evo n f hi vh) (ht : P.underlying t = some (.array m e))
    (hi1 : (P.info? e).map (·.size) = some 1) (hb : Bnd P false m m vl vh l h) (hlt : l < m) : Yields P n f (.slice t x lo hi none) ty w (.slice (some ⟨g, off + l, none⟩) (h - l) (m - l)) := by
  have h1 : (fr n f).eval x = .pointer (some ⟨g, off, none⟩) := hx
  have h2 : lo.map (fr n f).eval = vl := hl
  have h3 : hi.map (fr n f).eval = vh := hh
  have e' := hb w
  obtain ⟨i, hq, hs⟩ := Option.map_eq_some_iff.1 hi1
  have hsz : (sizeOf e).run P w = .ok 1 w := by simp [sizeOf, typeInfo, hq, hs]
  unfold Yields execOp
  simp only [h1, h2, h3]
  simp [Instr.sliceAt, Instr.sureAddr, Sem.run_bind, run_underlying ht, e', hsz, show ¬ m = l from by omega, Addr.add_lit]
/-! addresses -/
theorem y_ia {e : TypeId} {m g off i s : Nat} {k : IntKind} (hx : Ev n f x (.pointer (some ⟨g, off, none⟩))) (hy : Ev n f y (.int k a)) (ht : P.underlying t = some (.array m e)) (hs : (P.info? e).map (·.size) = some s)
    (hi : a = (i : Int)) (hlt : i < m) : Yields P n f (.indexAddr t x y) ty w (.pointer (some ⟨g, off + i * s, none⟩)) := by
  have h1 : (fr n f).eval x = .pointer (some ⟨g, off, none⟩) := hx
  have h2 : (fr n f).eval y = .int k a := hy
  subst hi
  obtain ⟨q, hq, hs⟩ := Option.map_eq_some_iff.1 hs
  have hsz : (sizeOf e).run P w = .ok s w := by simp [sizeOf, typeInfo, hq, hs]
  have h0 : (0 : Int) ≤ i ∧ (i : Int) < m := ⟨by omega, by omega⟩
  unfold Yields execOp
  simp only [h1, h2]
  simp [Instr.indexAt, Instr.sureAddr, asIntOf, Sem.run_bind, run_underlying ht, hsz, h0, hlt, Addr.add_lit]
theorem y_ia1 {e : TypeId} {m g off i : Nat} {k : IntKind} (hx : Ev n f x (.pointer (some ⟨g, off, none⟩))) (hy : Ev n f y (.int k a)) (ht : P.underlying t = some (.array m e)) (hs : (P.info? e).map (·.size) = some 1)
    (hi : a = (i : Int)) (hlt : i < m) : Yields P n f (.indexAddr t x y) ty w (.pointer (some ⟨g, off + i, none⟩)) := by
  have := y_ia (ty := ty) (w := w) hx hy ht hs hi hlt
  rwa [Nat.mul_one] at this
theorem y_is {e : TypeId} {m c g off i s : Nat} {k : IntKind} (hx : Ev n f x (.slice (some ⟨g, off, none⟩) m c)) (hy : Ev n f y (.int k a)) (ht : P.underlying t = some (.slice e)) (hs : (P.info? e).map (·.size) = some s)
    (hi : a = (i : Int)) (hlt : i < m) : Yields P n f (.indexAddr t x y) ty w (.pointer (some ⟨g, off + i * s, none⟩)) := by
  have h1 : (fr n f).eval x = .slice (some ⟨g, off, none⟩) m c := hx
  have h2 : (fr n f).eval y = .int k a := hy
  subst hi
  obtain ⟨q, hq, hs⟩ := Option.map_eq_some_iff.1 hs
  have hsz : (sizeOf e).run P w = .ok s w := by simp [sizeOf, typeInfo, hq, hs]
  have h0 : (0 : Int) ≤ i ∧ (i : Int) < m := ⟨by omega, by omega⟩
  unfold Yields execOp
  simp only [h1, h2]
  simp [Instr.indexAt, asIntOf, Sem.run_bind, run_underlying ht, hsz, h0, hlt, Addr.add_lit]
theorem y_is1 {e : TypeId} {m c g off i : Nat} {k : IntKind} (hx : Ev n f x (.slice (some ⟨g, off, none⟩) m c)) (hy : Ev n f y (.int k a)) (ht : P.underlying t = some (.slice e)) (hs : (P.info? e).map (·.size) = some 1)
    (hi : a = (i : Int)) (hlt : i < m) : Yields P n f (.indexAddr t x y) ty w (.pointer (some ⟨g, off + i, none⟩)) := by
  have := y_is (ty := ty) (w := w) hx hy ht hs hi hlt
  rwa [Nat.mul_one] at this
theorem y_fa {g off o : Nat} {i : Nat} (hx : Ev n f x (.pointer (some ⟨g, off, none⟩))) (hf : ∀ w, (Instr.fieldAt t (.pointer (some ⟨g, off, none⟩)) i).run P w = .ok (.pointer (some ⟨g, off + o, none⟩)) w) : Yields P n f (.fieldAddr t x i) ty w (.pointer (some ⟨g, off + o, none⟩)) := by
  have h1 : (fr n f).eval x = .pointer (some ⟨g, off, none⟩) := hx
  unfold Yields execOp
  simp only [h1]
  rw [Sem.run_bind, hf w]
  rfl
/-! loads -/
def scal : TypeDesc → Bool
  | .struct _ | .array _ _ => false
  | _ => true
theorem y_ld {g i : Nat} (hx : Ev n f x (.pointer (some ⟨g, i, none⟩))) (hu : (P.underlying t).map scal = some true) (hc : w.cell? ⟨g, i, none⟩ = some v) : Yields P n f (.load t x) ty w v := by
  have h1 : (fr n f).eval x = .pointer (some ⟨g, i, none⟩) := hx
  obtain ⟨d, h2, h3⟩ := Option.map_eq_some_iff.1 hu
  have hag : (isAgg t).run P w = .ok false w := by
    unfold isAgg
    rw [Sem.run_bind, run_underlying h2 w]
    cases d <;> simp_all [scal]
  unfold Yields execOp
  simp only [h1]
  simp [Instr.loadAt, Instr.sureAddr, loadVar, Sem.run_bind, hag, run_load, hc]
theorem y_lda {g off m : Nat} {F : Nat → Value} (hx : Ev n f x (.pointer (some ⟨g, off, none⟩))) (hu : (P.underlying t).map isAggD = some true) (hi : (P.info? t).map (·.size) = some m) (hc : ∀ j, j < m → w.cell? ⟨g, off + j, none⟩ = some (F j)) :
    Yields P n f (.load t x) ty w (.agg (arr m F)) := by
  have h1 : (fr n f).eval x = .pointer (some ⟨g, off, none⟩) := hx
  unfold Yields execOp
  simp only [h1]
  simp [Instr.loadAt, Instr.sureAddr, Sem.run_bind, run_loadVar_at w t g off m F hu hi hc]
/-- string(b) -/
theorem y_str {s d e : TypeId} {g off m c : Nat} {l : List (BitVec 8)} (hx : Ev n f x (.slice (some ⟨g, off, none⟩) m c)) (hl : l.length = m) (hs : P.underlying s = some (.slice e)) (he : P.underlying e = some (.int .u8)) (hd : P.underlying d = some .string)
    (hc : ∀ j, j < m → w.cell? ⟨g, off + j, none⟩ = some (U8 (gb l j))) : Yields P n f (.convert s d x) ty w (.string (str l)) :=
  y_conv hx (run_string_of w s d e g off c m l hl hs he hd hc)
theorem y_str0 {s d e : TypeId} {m c : Nat} (hx : Ev n f x (.slice none m c)) (hs : P.underlying s = some (.slice e)) (he : P.underlying e = some (.int .u8)) (hd : P.underlying d = some .string) : Yields P n f (.convert s d x) ty w (.string (str [])) :=
  y_conv hx (by simp [convert, Sem.run_bind, run_underlying hs, run_underlying he, run_underlying hd, Conv.bytesToString, str]; rfl)
theorem y_build {ps : Array (Nat × Operand)} {vs : Array (Nat × Value)} (hp : (ps.map fun (i, x) => (i, (fr n f).eval x)) = vs) (hb : ∀ w, (Instr.build t vs).run P w = .ok v w) : Yields P n f (.build t ps) ty w v := by
  unfold Yields execOp
  simp only [hp]
  rw [Sem.run_bind, hb w]
  rfl
/-! ### operations that turn the world -/
theorem w_st {p x : Operand} {pos : String} {aft : Array Edge} {g i : Nat} (hp : Ev n f p (.pointer (some ⟨g, i, none⟩))) (hx : Ev n f x v) (hone : v.oneCell' = true) (hcl : v.cells = #[v]) (hty : (P.info? t).map (·.size) = some 1)
    {e : TypeId} {m : Nat} {F : Nat → Value} (hr : Row w g e m F) (hi : i < m)
    (h : ∀ w', Row w' g e m (fun j => if j = i then v else F j) → w.grownBy w' (some g) → w'.heap.size = w.heap.size → wpList P ops Q rest (fr n f) w') :
    wpList P ops Q (⟨none, .store t p x, ty, pos, aft, none⟩ :: rest) (fr n f) w :=
  wpList_store_cell rfl rfl t p x rfl g i hp v hx hone hcl hty e m F hr hi h
theorem w_sta {p x : Operand} {pos : String} {aft : Array Edge} {g off k : Nat} {G : Nat → Value} (hp : Ev n f p (.pointer (some ⟨g, off, none⟩))) (hx : Ev n f x (.agg (arr k G))) (hone : ∀ j, j < k → (G j).oneCell' = true) (hty : (P.info? t).map (·.size) = some k)
    {e : TypeId} {m : Nat} {F : Nat → Value} (hr : Row w g e m F) (hi : off + k ≤ m)
    (h : ∀ w', Row w' g e m (fun j => if off ≤ j ∧ j < off + k then G (j - off) else F j) → w.grownBy w' (some g) → w'.heap.size = w.heap.size → wpList P ops Q rest (fr n f) w') :
    wpList P ops Q (⟨none, .store t p x, ty, pos, aft, none⟩ :: rest) (fr n f) w :=
  wpList_store_arr rfl rfl t p x rfl g off k hp G hx hty hone e m F hr hi h
/-- a step that makes a new block -/
theorem w_new {op : Op} {d : Nat} {p : String} {aft : Array Edge} {c : Array Value} {e : TypeId} {m : Nat} {F : Nat → Value} (hr : (execOp (fr n f).eval ⟨none, op, ty, default, #[], none⟩).run P w = .ok (.value v) (w.alloc (.cells c e)))
    (hc : c = arr m F) (h : ∀ w', Row w' w.heap.size e m F → Below w.heap.size w w' → wpList P ops Q rest (fr n (up f d v)) w') : wpList P ops Q (⟨some d, op, ty, p, aft, none⟩ :: rest) (fr n f) w :=
  wpList_plain rfl fun K hK => by
    unfold Oper.wp
    have e' : (execOp (fr n f).eval ⟨some d, op, ty, p, aft, none⟩).run P w = .ok (.value v) (w.alloc (.cells c e)) := hr
    rw [e']
    simp only [Oper.upon, fr_put]
    subst hc
    exact hK _ _ (h _ (Row.of_arr w e m F) ((Below.refl _ _).alloc (Nat.le_refl _) _))
theorem w_alloc {e : TypeId} {d : Nat} {p : String} {aft : Array Edge} {m : Nat} {F : Nat → Value} (hz : (P.info? e).map (fun i => i.zero.map Value.cells) = some (some (arr m F)))
    (h : ∀ b w', b = w.heap.size → Row w' b e m F → Below w.heap.size w w' → wpList P ops Q rest (fr n (up f d (.pointer (some ⟨b, 0, none⟩)))) w') : wpList P ops Q (⟨some d, .alloc e, ty, p, aft, none⟩ :: rest) (fr n f) w := by
  obtain ⟨i, hi, hz⟩ := Option.map_eq_some_iff.1 hz
  obtain ⟨zv, hz1, hz2⟩ := Option.map_eq_some_iff.1 hz
  refine w_new (v := .pointer (some ⟨w.heap.size, 0, none⟩)) (c := zv.cells) (e := e) ?_ hz2 (fun w' => h _ w' rfl)
  have hzz : (zeroValue e).run P w = .ok zv w := by simp [zeroValue, typeInfo, hi, hz1]
  simp [execOp, Instr.alloc, Sem.run_bind, hzz, newVar, newRow, go_sem]
theorem w_box {e : TypeId} {d : Nat} {p : String} {aft : Array Edge} {m : Nat} {F : Nat → Value} (hx : Ev n f x v) (hc : v.cells = arr m F)
    (h : ∀ b w', b = w.heap.size → Row w' b e m F → Below w.heap.size w w' → wpList P ops Q rest (fr n (up f d (.pointer (some ⟨b, 0, none⟩)))) w') : wpList P ops Q (⟨some d, .box e x, ty, p, aft, none⟩ :: rest) (fr n f) w := by
  have h1 : (fr n f).eval x = v := hx
  refine w_new (v := .pointer (some ⟨w.heap.size, 0, none⟩)) (c := v.cells) (e := e) ?_ hc (fun w' => h _ w' rfl)
  have h2 : (Instr.box e v).run P w = .ok (.pointer (some ⟨w.heap.size, 0, none⟩)) (w.alloc (.cells v.cells e)) := by
    simp only [Instr.box, newVar, Sem.run_bind]
    generalize v.cells = cs
    simp [newRow, go_sem]
  unfold execOp
  simp only [h1]
  rw [Sem.run_bind, h2]
  rfl
theorem w_mks {e : TypeId} {d : Nat} {p : String} {aft : Array Edge} {m bytes : Nat} {zv : Value} {kl kc : IntKind} {b : Int} (hx : Ev n f x (.int kl a)) (hy : Ev n f y (.int kc b)) (hm : a = (m : Int)) (hm' : b = (m : Int))
    (ht : P.underlying t = some (.slice e)) (hinfo : (P.info? e).map (fun i => (i.zero, i.size, i.bytes)) = some (some zv, 1, bytes)) (hz1 : zv.cells = #[zv]) (hbytes : bytes * m ≤ 281474976710656) (h63 : m ≤ 9223372036854775807)
    (h : ∀ b w', b = w.heap.size → Row w' b e m (fun _ => zv) → Below w.heap.size w w' → wpList P ops Q rest (fr n (up f d (.slice (some ⟨b, 0, none⟩) m m))) w') : wpList P ops Q (⟨some d, .makeSlice t x y, ty, p, aft, none⟩ :: rest) (fr n f) w := by
  have h1 : (fr n f).eval x = .int kl a := hx
  have h2 : (fr n f).eval y = .int kc b := hy
  subst hm hm'
  have hr := run_make_row' (P := P) t e zv bytes ht hinfo hz1 kl kc m hbytes h63 w
  refine w_new (v := .slice (some ⟨w.heap.size, 0, none⟩) m m) (c := madeCells #[zv] m) (e := e) (m := m) (F := fun _ => zv) ?_ ?_ (fun w' => h _ w' rfl)
  · simp [execOp, h1, h2, Sem.run_bind, hr]
  · apply Array.ext_getElem?
    intro i
    by_cases hi : i < m
    · rw [arr_at _ _ _ hi]; simp [madeCells, hi, Nat.mod_one]
    · rw [Array.getElem?_eq_none (by simp [size_madeCells]; omega), Array.getElem?_eq_none (by rw [size_arr]; omega)]
theorem w_call {d : Nat} {p : String} {aft : Array Edge} {k : FuncId} {fn : Func} {c : Code} {args : Array Operand} {tys : Array TypeId} {vs : Array Value} {R : Ending → World → Prop} (hf : P.funcs[k]? = some fn) (hname : (fn.name == "runtime.NumGoroutine") = false) (hb : fn.body = some c)
    (ha : args.map (fr n f).eval = vs) (hc : Calls P k vs w R) (h : ∀ e w', R e w' → ∃ v, e = .returned v ∧ wpList P ops Q rest (fr n (up f d v)) w') : wpList P ops Q (⟨some d, .call ⟨.value (.func k), args, tys⟩, ty, p, aft, none⟩ :: rest) (fr n f) w :=
  wpList_plain rfl fun K hK => by
    unfold Oper.wp
    have e1 : (execOp (fr n f).eval ⟨some d, .call ⟨.value (.func k), args, tys⟩, ty, p, aft, none⟩).run P w = .ok (.enter k vs) w := by
      simp only [execOp, resolve, ha, Sem.run_bind, Deferred.ofValue, Act.eval, Sem.run_pure, Result.andThen_ok, invoke, Array.append_empty, Array.empty_append]
      exact MuLone.run_callFunc_enter hf hname hb _ _
    rw [e1]
    simp only [Oper.upon]
    refine hc.mono fun e w' he => ?_
    obtain ⟨v, rfl, h'⟩ := h e w' he
    show K ((fr n f).put (some d) v) w'
    rw [fr_put]
    exact hK _ _ h'
/-- the class of worlds of a region that draws: nothing that is there now is turned -/
def Cls (w : World) : World → Prop := fun w' => Below w.heap.size w w'
theorem q_call {L : Act → Prop} {d : Nat} {p : String} {aft : Array Edge} {k : FuncId} {fn : Func} {c : Code} {args : Array Operand} {tys : Array TypeId} {vs : Array Value} (hf : P.funcs[k]? = some fn) (hname : (fn.name == "runtime.NumGoroutine") = false) (hb : fn.body = some c)
    (ha : args.map (fr n f).eval = vs) (hc : ∀ w', Below w.heap.size w w' → Calls P k vs w' (fun e w'' => e = .returned v ∧ Below w'.heap.size w' w''))
    (h : wpQuiet P ops (Cls w) L rest (fr n (up f d v))) : wpQuiet P ops (Cls w) L (⟨some d, .call ⟨.value (.func k), args, tys⟩, ty, p, aft, none⟩ :: rest) (fr n f) :=
  wpQuiet_step fun K hK => by
    rw [if_pos (by simp [Region.wanted])]
    refine ⟨v, fun w' hw => ?_, ?_⟩
    · unfold Oper.quietAt
      have e1 : (execOp (fr n f).eval ⟨some d, .call ⟨.value (.func k), args, tys⟩, ty, p, aft, none⟩).run P w' = .ok (.enter k vs) w' := by
        simp only [execOp, resolve, ha, Sem.run_bind, Deferred.ofValue, Act.eval, Sem.run_pure, Result.andThen_ok, invoke, Array.append_empty, Array.empty_append]
        exact MuLone.run_callFunc_enter hf hname hb _ _
      rw [e1]
      exact ⟨rfl, (hc w' hw).mono fun e w'' ⟨he, hb2⟩ => ⟨he, hw.trans (hb2.mono hw.size)⟩⟩
    · rw [fr_put]; exact hK _ h
theorem region_t {id : Nat} {a : Act} {l : List Oper} (k : Nat) (hm : P.follows .mixedOrders = true) (hB : Region.lexTailB .any l.toArray k = true)
    (h : wpQuiet P l.toArray (Cls w) (fun a' => ∀ w', Below w.heap.size w w' → wpList P l.toArray Q (l.drop k) a' w') (l.take k) a) : (Code.region id l.toArray true).wp P Q a w :=
  wp_region_tail (Cls w) k hm hB ⟨rfl, rfl, rfl, Nat.le_refl _, fun _ _ => rfl⟩ h
theorem region_q {id : Nat} {a : Act} {l : List Oper} (hm : P.follows .mixedOrders = true) (hB : Region.lexB .any l.toArray = true)
    (h : wpQuiet P l.toArray (Cls w) (fun a' => ∀ w', Below w.heap.size w w' → Q .normal a' w') l a) : (Code.region id l.toArray true).wp P Q a w :=
  wp_region_quiet (C := Cls w) hm hB ⟨rfl, rfl, rfl, Nat.le_refl _, fun _ _ => rfl⟩ h
theorem q_nil {L : Act → Prop} {C : World → Prop} {a : Act} (h : L a) : wpQuiet P ops C L [] a := h
theorem cls_cell {g i : Nat} (hc : w.cell? ⟨g, i, none⟩ = some v) (hg : g < w.heap.size) : ∀ w', Cls w w' → w'.cell? ⟨g, i, none⟩ = some v := fun w' h => (Below.cell (p := ⟨g, i, none⟩) h hg).trans hc
theorem Row.step {w' : World} {g : Nat} {e : TypeId} {m : Nat} {F : Nat → Value} (h : Row w g e m F) (hb : Below w.heap.size w w') : Row w' g e m F := h.below hb h.lt
theorem Row.val {g : Nat} {e : TypeId} {m i : Nat} {F : Nat → Value} (h : Row w g e m F) (hi : i < m) (he : F i = v) : w.cell? ⟨g, i, none⟩ = some v := by rw [h.cell hi, he]
theorem thenB {w0 w' : World} (h : Below w0.heap.size w0 w) (hb : Below w.heap.size w w') : Below w0.heap.size w0 w' := h.trans (hb.mono h.size)
theorem thenG {w0 w' : World} {g : Nat} (h : Below w0.heap.size w0 w) (hg : w.grownBy w' (some g)) (hle : w0.heap.size ≤ g) : Below w0.heap.size w0 w' := h.grown hg h.size (fun k e => by cases e; exact hle)
theorem grown_refl (w : World) (r : Option Nat) : w.grownBy w r := ⟨rfl, rfl, rfl, Nat.le_refl _, fun _ _ _ => rfl⟩
theorem grown_thenB {w0 w' : World} {r : Option Nat} (h : w0.grownBy w r) (hb : Below w.heap.size w w') : w0.grownBy w' r :=
  ⟨hb.os.trans h.os, hb.tape.trans h.tape, hb.output.trans h.output, Nat.le_trans h.size hb.size, fun k hk hne => (hb.block k (Nat.lt_of_lt_of_le hk h.size)).trans (h.block k hk hne)⟩
theorem grown_thenG {w0 w' : World} {g r : Nat} (h : w0.grownBy w (some r)) (hg : w.grownBy w' (some g)) (hle : w0.heap.size ≤ g ∨ g = r) : w0.grownBy w' (some r) :=
  ⟨hg.os.trans h.os, hg.tape.trans h.tape, hg.output.trans h.output, Nat.le_trans h.size hg.size, fun k hk hne => (hg.block k (Nat.lt_of_lt_of_le hk h.size) (fun e => by
    cases e
    rcases hle with hle | rfl
    · omega
    · exact hne rfl)).trans (h.block k hk hne)⟩
theorem grown_of_below {w w' : World} {r : Option Nat} (h : Below w.heap.size w w') : w.grownBy w' r := ⟨h.os, h.tape, h.output, h.size, fun k hk _ => h.block k hk⟩
/-- a loop: the relation bears a number that every round lowers -/
theorem c_loop {c : Code} {a : Act} (I : Nat → Act → World → Prop) (k : Nat) (h0 : I k a w) (round : ∀ k a w, I k a w → c.wp P (Exit.then (fun a' w' => ∃ k', k' < k ∧ I k' a' w') Q) a w) : (Code.loop c).wp P Q a w :=
  wp_loop_ghost I k h0 round
theorem y_off {op : Op} {g o o' : Nat} (h : Yields P n f op ty w (.pointer (some ⟨g, o, none⟩))) (e : o = o') : Yields P n f op ty w (.pointer (some ⟨g, o', none⟩)) := e ▸ h
theorem y_sloff {op : Op} {g o o' l c l' c' : Nat} (h : Yields P n f op ty w (.slice (some ⟨g, o, none⟩) l c)) (e : o = o') (e2 : (l, c) = (l', c')) : Yields P n f op ty w (.slice (some ⟨g, o', none⟩) l' c') := by
  cases e2; exact e ▸ h
theorem y_ia1z {e : TypeId} {m g i : Nat} {k : IntKind} (hx : Ev n f x (.pointer (some ⟨g, 0, none⟩))) (hy : Ev n f y (.int k a)) (ht : P.underlying t = some (.array m e)) (hs : (P.info? e).map (·.size) = some 1)
    (hi : a = (i : Int)) (hlt : i < m) : Yields P n f (.indexAddr t x y) ty w (.pointer (some ⟨g, i, none⟩)) := y_off (y_ia1 hx hy ht hs hi hlt) (Nat.zero_add i)
theorem y_is1z {e : TypeId} {m c g i : Nat} {k : IntKind} (hx : Ev n f x (.slice (some ⟨g, 0, none⟩) m c)) (hy : Ev n f y (.int k a)) (ht : P.underlying t = some (.slice e)) (hs : (P.info? e).map (·.size) = some 1)
    (hi : a = (i : Int)) (hlt : i < m) : Yields P n f (.indexAddr t x y) ty w (.pointer (some ⟨g, i, none⟩)) := y_off (y_is1 hx hy ht hs hi hlt) (Nat.zero_add i)
theorem y_slf {s : List (BitVec 8)} {lo : Option Operand} {vl : Option Value} {l : Nat} (hx : Ev n f x (.string (str s))) (hl : evo n f lo vl) (ht : P.underlying t = some .string) (hb : Bnd P false s.length s.length vl none l s.length) :
    Yields P n f (.slice t x lo none none) ty w (.string (str (s.drop l))) := by
  have := y_sls (ty := ty) (w := w) hx hl evo.no ht hb
  rwa [List.take_of_length_le (by simp)] at this
theorem y_slh {e : TypeId} {g off len cap h : Nat} {hi : Option Operand} {vh : Option Value} (hx : Ev n f x (.slice (some ⟨g, off, none⟩) len cap)) (hh : evo n f hi vh) (ht : P.underlying t = some (.slice e))
    (hb : Bnd P true len cap none vh 0 h) (hi1 : (P.info? e).map (·.size) = some 1) : Yields P n f (.slice t x none hi none) ty w (.slice (some ⟨g, off, none⟩) h cap) := by
  have h1 : (fr n f).eval x = .slice (some ⟨g, off, none⟩) len cap := hx
  have h3 : hi.map (fr n f).eval = vh := hh
  have e' := hb w
  obtain ⟨i, hq, hs⟩ := Option.map_eq_some_iff.1 hi1
  have hsz : (sizeOf e).run P w = .ok 1 w := by simp [sizeOf, typeInfo, hq, hs]
  unfold Yields execOp
  simp only [h1, h3]
  simp [Instr.sliceAt, Instr.slice, Sem.run_bind, run_underlying ht, e', hsz, Addr.add_lit]
theorem Row.stepG {w' : World} {g b : Nat} {e : TypeId} {m : Nat} {F : Nat → Value} (h : Row w b e m F) (hg : w.grownBy w' (some g)) (hne : b ≠ g) : Row w' b e m F := h.grown hg (fun e => hne (by injection e))
theorem mp_cons {i : Nat} {x : Operand} {v : Value} {ps : List (Nat × Operand)} {vs : List (Nat × Value)} (h : Ev n f x v) (hr : (ps.toArray.map fun (i, x) => (i, (fr n f).eval x)) = vs.toArray) :
    ((((i, x) :: ps).toArray).map fun (i, x) => (i, (fr n f).eval x)) = ((i, v) :: vs).toArray := by
  have e : (fr n f).eval x = v := h
  simp only [List.map_toArray, List.map_cons, e]
  simp only [List.map_toArray] at hr
  have hr' := congrArg Array.toList hr
  simp only [Array.toList] at hr'
  rw [hr']
theorem mp0 : ((#[] : Array (Nat × Operand)).map fun (i, x) => (i, (fr n f).eval x)) = #[] := by simp
theorem grownCap_le (w : World) (m old e : Nat) : m ≤ grownCap w m old e := grownCap_ge w m old e
/-- []byte(s) -/
theorem w_bytes {s d' e : TypeId} {d : Nat} {p : String} {aft : Array Edge} {l : List (BitVec 8)} (hx : Ev n f x (.string (str l))) (hs : P.underlying s = some .string) (hd : P.underlying d' = some (.slice e)) (he : P.underlying e = some (.int .u8))
    (h : ∀ b c w', b = w.heap.size → l.length ≤ c → Row w' b e l.length (fun j => U8 (gb l j)) → Below w.heap.size w w' → wpList P ops Q rest (fr n (up f d (.slice (some ⟨b, 0, none⟩) l.length c))) w') :
    wpList P ops Q (⟨some d, .convert s d' x, ty, p, aft, none⟩ :: rest) (fr n f) w :=
  wpList_plain rfl fun K hK => by
    have h1 : (fr n f).eval x = .string (str l) := hx
    have hr := run_bytes_of_string (P := P) w s d' e (str l) hs hd he
    rw [size_str] at hr
    have hc := grownCap_le w l.length 0 e
    have hlt : ∀ i, i < l.length → (bytesRow (str l) (grownCap w l.length 0 e))[i]? = some (U8 (gb l i)) := fun i hi => by
      simp [bytesRow, str, hi, gb, U8, Array.getElem?_append]
    generalize grownCap w l.length 0 e = c at *
    unfold Oper.wp
    have e1 : (execOp (fr n f).eval ⟨some d, .convert s d' x, ty, p, aft, none⟩).run P w = .ok (.value (.slice (some ⟨w.heap.size, 0, none⟩) l.length c)) (w.drew.alloc (.cells (bytesRow (str l) c) e ((bytesRow (str l) c).size, (bytesRow (str l) c).size + 1))) := by
      unfold execOp
      simp only [h1]
      rw [Sem.run_bind, hr]
      rfl
    rw [e1]
    simp only [Oper.upon, fr_put]
    have hn : l.length ≤ (bytesRow (str l) c).size := by
      rcases Nat.eq_zero_or_pos l.length with h0 | h0
      · omega
      · have := hlt (l.length - 1) (by omega)
        have := (Array.getElem?_eq_some_iff.1 this).1
        omega
    refine hK _ _ (h _ c _ rfl hc ⟨_, _, _, heap_alloc_new w.drew _, hn, hlt, .inl hn⟩ ?_)
    exact ((Below.refl _ _).drew).alloc (Nat.le_refl _) _
end
end Go.Proofs.YtdmbfimjbmfbaaaGreatDoor
