/-
  Machine words as values: U8, U32, U64 carry a bit vector; the walk's rules on them. No conditions. Strings as lists of bytes, and rows of cells. No conditions. A region whose order is open: operations that are quiet in a class of worlds, then a tail in one forced order. And the class of later worlds. No conditions. Whole arrays read out of a row of cells and stored into one. No conditions.
-/
import Derived.WalkKit
import Derived.WalkLawsBesides
import Derived.WalkSpells
import Derived.Lib.Hide
import Derived.StillTailTactics
import Derived.Deep.QuietTactic
import Derived.BigQuiet
import Derived.Laws.IdiomCopy
namespace Go.Proofs.YtkjdejadambffaaDoor
open Go.RowKit
set_option linter.unusedSimpArgs false
set_option linter.unusedVariables false


/-- a word as an index: simp does not look behind the name -/
def idx {n : Nat} (x : BitVec n) : Nat := x.toNat
theorem idx_lt {n : Nat} (x : BitVec n) : idx x < 2 ^ n := x.isLt

/-- a word of 8 bits, as a value -/
def U8 (x : BitVec 8) : Value := .int .u8 (x.toNat : Int)
theorem U8.out (x : BitVec 8) : U8 x = .int .u8 (x.toNat : Int) := rfl
theorem U8_raw (b : Int) (hb : 0 ≤ b ∧ b < 256) : Value.int .u8 b = U8 (BitVec.ofNat 8 b.toNat) := by
  have h : (b.toNat % 256 : Nat) = b.toNat := Nat.mod_eq_of_lt (by omega)
  have e : ((BitVec.ofNat 8 b.toNat).toNat : Int) = b := by
    rw [BitVec.toNat_ofNat]
    show ((b.toNat % 256 : Nat) : Int) = b
    rw [h]; omega
  simp only [U8, e]
theorem U8.inj {x y : BitVec 8} (h : U8 x = U8 y) : x = y := by
  simp only [U8, Value.int.injEq, true_and] at h
  exact BitVec.eq_of_toNat_eq (by omega)
theorem wrap_u8 (n : Int) : IntKind.u8.wrap n = ((BitVec.ofInt 8 n).toNat : Int) := by
  rw [BitVec.toNat_ofInt]
  simp [IntKind.wrap, IntKind.bits, IntKind.signed]
  omega
theorem ofInt_u8 (x : BitVec 8) : BitVec.ofInt 8 (x.toNat : Int) = x := by simp
theorem U8.oneCell (x : BitVec 8) : (U8 x).oneCell' = true := rfl
theorem U8.cells (x : BitVec 8) : (U8 x).cells = #[U8 x] := rfl
theorem U8.cellsm (x : BitVec 8) : Value.cells.match_1 (fun _ => Array Value) (U8 x) (fun cs => cs) (fun v => #[v]) = #[U8 x] := rfl

/-- a word of 32 bits, as a value -/
def U32 (x : BitVec 32) : Value := .int .u32 (x.toNat : Int)
theorem U32.out (x : BitVec 32) : U32 x = .int .u32 (x.toNat : Int) := rfl
theorem U32_raw (b : Int) (hb : 0 ≤ b ∧ b < 4294967296) : Value.int .u32 b = U32 (BitVec.ofNat 32 b.toNat) := by
  have h : (b.toNat % 4294967296 : Nat) = b.toNat := Nat.mod_eq_of_lt (by omega)
  have e : ((BitVec.ofNat 32 b.toNat).toNat : Int) = b := by
    rw [BitVec.toNat_ofNat]
    show ((b.toNat % 4294967296 : Nat) : Int) = b
    rw [h]; omega
  simp only [U32, e]
theorem U32.inj {x y : BitVec 32} (h : U32 x = U32 y) : x = y := by
  simp only [U32, Value.int.injEq, true_and] at h
  exact BitVec.eq_of_toNat_eq (by omega)
theorem wrap_u32 (n : Int) : IntKind.u32.wrap n = ((BitVec.ofInt 32 n).toNat : Int) := by
  rw [BitVec.toNat_ofInt]
  simp [IntKind.wrap, IntKind.bits, IntKind.signed]
  omega
theorem ofInt_u32 (x : BitVec 32) : BitVec.ofInt 32 (x.toNat : Int) = x := by simp
theorem U32.oneCell (x : BitVec 32) : (U32 x).oneCell' = true := rfl
theorem U32.cells (x : BitVec 32) : (U32 x).cells = #[U32 x] := rfl
theorem U32.cellsm (x : BitVec 32) : Value.cells.match_1 (fun _ => Array Value) (U32 x) (fun cs => cs) (fun v => #[v]) = #[U32 x] := rfl

/-- a word of 64 bits, as a value -/
def U64 (x : BitVec 64) : Value := .int .u64 (x.toNat : Int)
theorem U64.out (x : BitVec 64) : U64 x = .int .u64 (x.toNat : Int) := rfl
theorem U64_raw (b : Int) (hb : 0 ≤ b ∧ b < 18446744073709551616) : Value.int .u64 b = U64 (BitVec.ofNat 64 b.toNat) := by
  have h : (b.toNat % 18446744073709551616 : Nat) = b.toNat := Nat.mod_eq_of_lt (by omega)
  have e : ((BitVec.ofNat 64 b.toNat).toNat : Int) = b := by
    rw [BitVec.toNat_ofNat]
    show ((b.toNat % 18446744073709551616 : Nat) : Int) = b
    rw [h]; omega
  simp only [U64, e]
theorem U64.inj {x y : BitVec 64} (h : U64 x = U64 y) : x = y := by
  simp only [U64, Value.int.injEq, true_and] at h
  exact BitVec.eq_of_toNat_eq (by omega)
theorem wrap_u64 (n : Int) : IntKind.u64.wrap n = ((BitVec.ofInt 64 n).toNat : Int) := by
  rw [BitVec.toNat_ofInt]
  simp [IntKind.wrap, IntKind.bits, IntKind.signed]
  omega
theorem ofInt_u64 (x : BitVec 64) : BitVec.ofInt 64 (x.toNat : Int) = x := by simp
theorem U64.oneCell (x : BitVec 64) : (U64 x).oneCell' = true := rfl
theorem U64.cells (x : BitVec 64) : (U64 x).cells = #[U64 x] := rfl
theorem U64.cellsm (x : BitVec 64) : Value.cells.match_1 (fun _ => Array Value) (U64 x) (fun cs => cs) (fun v => #[v]) = #[U64 x] := rfl

theorem ofInt_sub' (w : Nat) (a b : Int) : BitVec.ofInt w (a - b) = BitVec.ofInt w a - BitVec.ofInt w b := by
  rw [Int.sub_eq_add_neg, BitVec.ofInt_add, BitVec.ofInt_neg, ← BitVec.sub_eq_add_neg]
theorem wrap_u8' (n : Int) : IntKind.u8.wrap n = n % 256 := by simp [IntKind.wrap, IntKind.bits, IntKind.signed]
theorem wrap_u32' (n : Int) : IntKind.u32.wrap n = n % 4294967296 := by simp [IntKind.wrap, IntKind.bits, IntKind.signed]
theorem wrap_u64' (n : Int) : IntKind.u64.wrap n = n % 18446744073709551616 := by simp [IntKind.wrap, IntKind.bits, IntKind.signed]

theorem fold_u8 (n : Int) : Value.int .u8 (n % 256) = U8 (BitVec.ofInt 8 n) := by rw [← wrap_u8', wrap_u8]; rfl
theorem fold_u32 (n : Int) : Value.int .u32 (n % 4294967296) = U32 (BitVec.ofInt 32 n) := by rw [← wrap_u32', wrap_u32]; rfl
theorem fold_u64 (n : Int) : Value.int .u64 (n % 18446744073709551616) = U64 (BitVec.ofInt 64 n) := by rw [← wrap_u64', wrap_u64]; rfl
theorem add_U8 (t : TypeId) (x y : BitVec 8) : binOp .add t (U8 x) (U8 y) = pure (U8 (x + y)) := by
  simp only [U8, binOp_add, Op.intArith, wrap_u8, BitVec.ofInt_add, ofInt_u8]
theorem add_U8_r (t : TypeId) (x : BitVec 8) (b : Int) : binOp .add t (U8 x) (.int .u8 b) = pure (U8 (x + BitVec.ofInt 8 b)) := by
  simp only [U8, binOp_add, Op.intArith, wrap_u8, BitVec.ofInt_add, ofInt_u8]
theorem add_U8_l (t : TypeId) (a : Int) (y : BitVec 8) : binOp .add t (.int .u8 a) (U8 y) = pure (U8 (BitVec.ofInt 8 a + y)) := by
  simp only [U8, binOp_add, Op.intArith, wrap_u8, BitVec.ofInt_add, ofInt_u8]
theorem sub_U8 (t : TypeId) (x y : BitVec 8) : binOp .sub t (U8 x) (U8 y) = pure (U8 (x - y)) := by
  simp only [U8, binOp_sub, Op.intArith, wrap_u8, ofInt_sub', ofInt_u8]
theorem sub_U8_r (t : TypeId) (x : BitVec 8) (b : Int) : binOp .sub t (U8 x) (.int .u8 b) = pure (U8 (x - BitVec.ofInt 8 b)) := by
  simp only [U8, binOp_sub, Op.intArith, wrap_u8, ofInt_sub', ofInt_u8]
theorem sub_U8_l (t : TypeId) (a : Int) (y : BitVec 8) : binOp .sub t (.int .u8 a) (U8 y) = pure (U8 (BitVec.ofInt 8 a - y)) := by
  simp only [U8, binOp_sub, Op.intArith, wrap_u8, ofInt_sub', ofInt_u8]
theorem mul_U8 (t : TypeId) (x y : BitVec 8) : binOp .mul t (U8 x) (U8 y) = pure (U8 (x * y)) := by
  simp only [U8, binOp_mul, Op.intArith, wrap_u8, BitVec.ofInt_mul, ofInt_u8]
theorem mul_U8_r (t : TypeId) (x : BitVec 8) (b : Int) : binOp .mul t (U8 x) (.int .u8 b) = pure (U8 (x * BitVec.ofInt 8 b)) := by
  simp only [U8, binOp_mul, Op.intArith, wrap_u8, BitVec.ofInt_mul, ofInt_u8]
theorem mul_U8_l (t : TypeId) (a : Int) (y : BitVec 8) : binOp .mul t (.int .u8 a) (U8 y) = pure (U8 (BitVec.ofInt 8 a * y)) := by
  simp only [U8, binOp_mul, Op.intArith, wrap_u8, BitVec.ofInt_mul, ofInt_u8]
theorem and_U8 (t : TypeId) (x y : BitVec 8) : binOp .and t (U8 x) (U8 y) = pure (U8 (x &&& y)) := by
  simp only [U8, binOp_and, Op.intBits, IntKind.bits, ofInt_u8, wrap_u8]; rfl
theorem and_U8_r (t : TypeId) (x : BitVec 8) (b : Int) : binOp .and t (U8 x) (.int .u8 b) = pure (U8 (x &&& BitVec.ofInt 8 b)) := by
  simp only [U8, binOp_and, Op.intBits, IntKind.bits, ofInt_u8, wrap_u8]; rfl
theorem and_U8_l (t : TypeId) (a : Int) (y : BitVec 8) : binOp .and t (.int .u8 a) (U8 y) = pure (U8 (BitVec.ofInt 8 a &&& y)) := by
  simp only [U8, binOp_and, Op.intBits, IntKind.bits, ofInt_u8, wrap_u8]; rfl
theorem or_U8 (t : TypeId) (x y : BitVec 8) : binOp .or t (U8 x) (U8 y) = pure (U8 (x ||| y)) := by
  simp only [U8, binOp_or, Op.intBits, IntKind.bits, ofInt_u8, wrap_u8]; rfl
theorem or_U8_r (t : TypeId) (x : BitVec 8) (b : Int) : binOp .or t (U8 x) (.int .u8 b) = pure (U8 (x ||| BitVec.ofInt 8 b)) := by
  simp only [U8, binOp_or, Op.intBits, IntKind.bits, ofInt_u8, wrap_u8]; rfl
theorem or_U8_l (t : TypeId) (a : Int) (y : BitVec 8) : binOp .or t (.int .u8 a) (U8 y) = pure (U8 (BitVec.ofInt 8 a ||| y)) := by
  simp only [U8, binOp_or, Op.intBits, IntKind.bits, ofInt_u8, wrap_u8]; rfl
theorem xor_U8 (t : TypeId) (x y : BitVec 8) : binOp .xor t (U8 x) (U8 y) = pure (U8 (x ^^^ y)) := by
  simp only [U8, binOp_xor, Op.intBits, IntKind.bits, ofInt_u8, wrap_u8]; rfl
theorem xor_U8_r (t : TypeId) (x : BitVec 8) (b : Int) : binOp .xor t (U8 x) (.int .u8 b) = pure (U8 (x ^^^ BitVec.ofInt 8 b)) := by
  simp only [U8, binOp_xor, Op.intBits, IntKind.bits, ofInt_u8, wrap_u8]; rfl
theorem xor_U8_l (t : TypeId) (a : Int) (y : BitVec 8) : binOp .xor t (.int .u8 a) (U8 y) = pure (U8 (BitVec.ofInt 8 a ^^^ y)) := by
  simp only [U8, binOp_xor, Op.intBits, IntKind.bits, ofInt_u8, wrap_u8]; rfl
theorem andNot_U8 (t : TypeId) (x y : BitVec 8) : binOp .andNot t (U8 x) (U8 y) = pure (U8 (x &&& ~~~y)) := by
  simp only [U8, binOp_andNot, Op.intBits, IntKind.bits, ofInt_u8, wrap_u8]; rfl
theorem andNot_U8_r (t : TypeId) (x : BitVec 8) (b : Int) : binOp .andNot t (U8 x) (.int .u8 b) = pure (U8 (x &&& ~~~BitVec.ofInt 8 b)) := by
  simp only [U8, binOp_andNot, Op.intBits, IntKind.bits, ofInt_u8, wrap_u8]; rfl
theorem andNot_U8_l (t : TypeId) (a : Int) (y : BitVec 8) : binOp .andNot t (.int .u8 a) (U8 y) = pure (U8 (BitVec.ofInt 8 a &&& ~~~y)) := by
  simp only [U8, binOp_andNot, Op.intBits, IntKind.bits, ofInt_u8, wrap_u8]; rfl
theorem eql_U8 (t : TypeId) (x y : BitVec 8) : binOp .eql t (U8 x) (U8 y) = pure (.bool (x == y)) := by
  have h : ((x.toNat : Int) == (y.toNat : Int)) = (x == y) := by
    rw [Bool.eq_iff_iff, beq_iff_eq, beq_iff_eq]
    exact ⟨fun h => BitVec.eq_of_toNat_eq (by omega), fun h => by rw [h]⟩
  simp only [U8, binOp_eql, bne, h]
theorem eql_U8_r (t : TypeId) (x : BitVec 8) (b : Int) (hb : 0 ≤ b ∧ b < 256) : binOp .eql t (U8 x) (.int .u8 b) = pure (.bool (x == BitVec.ofNat 8 b.toNat)) := by rw [U8_raw b hb]; exact eql_U8 t _ _
theorem eql_U8_l (t : TypeId) (x : BitVec 8) (b : Int) (hb : 0 ≤ b ∧ b < 256) : binOp .eql t (.int .u8 b) (U8 x) = pure (.bool (BitVec.ofNat 8 b.toNat == x)) := by rw [U8_raw b hb]; exact eql_U8 t _ _
theorem neq_U8 (t : TypeId) (x y : BitVec 8) : binOp .neq t (U8 x) (U8 y) = pure (.bool (x != y)) := by
  have h : ((x.toNat : Int) == (y.toNat : Int)) = (x == y) := by
    rw [Bool.eq_iff_iff, beq_iff_eq, beq_iff_eq]
    exact ⟨fun h => BitVec.eq_of_toNat_eq (by omega), fun h => by rw [h]⟩
  simp only [U8, binOp_neq, bne, h]
theorem neq_U8_r (t : TypeId) (x : BitVec 8) (b : Int) (hb : 0 ≤ b ∧ b < 256) : binOp .neq t (U8 x) (.int .u8 b) = pure (.bool (x != BitVec.ofNat 8 b.toNat)) := by rw [U8_raw b hb]; exact neq_U8 t _ _
theorem neq_U8_l (t : TypeId) (x : BitVec 8) (b : Int) (hb : 0 ≤ b ∧ b < 256) : binOp .neq t (.int .u8 b) (U8 x) = pure (.bool (BitVec.ofNat 8 b.toNat != x)) := by rw [U8_raw b hb]; exact neq_U8 t _ _
theorem lss_U8 (t : TypeId) (x y : BitVec 8) : binOp .lss t (U8 x) (U8 y) = pure (.bool (decide (x.toNat < y.toNat))) := by simp only [U8, binOp_lss, GT.gt, GE.ge, Int.ofNat_lt, Int.ofNat_le]
theorem lss_U8_r (t : TypeId) (x : BitVec 8) (b : Int) (hb : 0 ≤ b) : binOp .lss t (U8 x) (.int .u8 b) = pure (.bool (decide (x.toNat < b.toNat))) := by
  obtain ⟨n, rfl⟩ := Int.eq_ofNat_of_zero_le hb
  simp only [U8, binOp_lss, GT.gt, GE.ge, Int.ofNat_lt, Int.ofNat_le, Int.toNat_natCast]
theorem lss_U8_l (t : TypeId) (x : BitVec 8) (b : Int) (hb : 0 ≤ b) : binOp .lss t (.int .u8 b) (U8 x) = pure (.bool (decide (b.toNat < x.toNat))) := by
  obtain ⟨n, rfl⟩ := Int.eq_ofNat_of_zero_le hb
  simp only [U8, binOp_lss, GT.gt, GE.ge, Int.ofNat_lt, Int.ofNat_le, Int.toNat_natCast]
theorem leq_U8 (t : TypeId) (x y : BitVec 8) : binOp .leq t (U8 x) (U8 y) = pure (.bool (decide (x.toNat ≤ y.toNat))) := by simp only [U8, binOp_leq, GT.gt, GE.ge, Int.ofNat_lt, Int.ofNat_le]
theorem leq_U8_r (t : TypeId) (x : BitVec 8) (b : Int) (hb : 0 ≤ b) : binOp .leq t (U8 x) (.int .u8 b) = pure (.bool (decide (x.toNat ≤ b.toNat))) := by
  obtain ⟨n, rfl⟩ := Int.eq_ofNat_of_zero_le hb
  simp only [U8, binOp_leq, GT.gt, GE.ge, Int.ofNat_lt, Int.ofNat_le, Int.toNat_natCast]
theorem leq_U8_l (t : TypeId) (x : BitVec 8) (b : Int) (hb : 0 ≤ b) : binOp .leq t (.int .u8 b) (U8 x) = pure (.bool (decide (b.toNat ≤ x.toNat))) := by
  obtain ⟨n, rfl⟩ := Int.eq_ofNat_of_zero_le hb
  simp only [U8, binOp_leq, GT.gt, GE.ge, Int.ofNat_lt, Int.ofNat_le, Int.toNat_natCast]
theorem gtr_U8 (t : TypeId) (x y : BitVec 8) : binOp .gtr t (U8 x) (U8 y) = pure (.bool (decide (y.toNat < x.toNat))) := by simp only [U8, binOp_gtr, GT.gt, GE.ge, Int.ofNat_lt, Int.ofNat_le]
theorem gtr_U8_r (t : TypeId) (x : BitVec 8) (b : Int) (hb : 0 ≤ b) : binOp .gtr t (U8 x) (.int .u8 b) = pure (.bool (decide (b.toNat < x.toNat))) := by
  obtain ⟨n, rfl⟩ := Int.eq_ofNat_of_zero_le hb
  simp only [U8, binOp_gtr, GT.gt, GE.ge, Int.ofNat_lt, Int.ofNat_le, Int.toNat_natCast]
theorem gtr_U8_l (t : TypeId) (x : BitVec 8) (b : Int) (hb : 0 ≤ b) : binOp .gtr t (.int .u8 b) (U8 x) = pure (.bool (decide (x.toNat < b.toNat))) := by
  obtain ⟨n, rfl⟩ := Int.eq_ofNat_of_zero_le hb
  simp only [U8, binOp_gtr, GT.gt, GE.ge, Int.ofNat_lt, Int.ofNat_le, Int.toNat_natCast]
theorem geq_U8 (t : TypeId) (x y : BitVec 8) : binOp .geq t (U8 x) (U8 y) = pure (.bool (decide (y.toNat ≤ x.toNat))) := by simp only [U8, binOp_geq, GT.gt, GE.ge, Int.ofNat_lt, Int.ofNat_le]
theorem geq_U8_r (t : TypeId) (x : BitVec 8) (b : Int) (hb : 0 ≤ b) : binOp .geq t (U8 x) (.int .u8 b) = pure (.bool (decide (b.toNat ≤ x.toNat))) := by
  obtain ⟨n, rfl⟩ := Int.eq_ofNat_of_zero_le hb
  simp only [U8, binOp_geq, GT.gt, GE.ge, Int.ofNat_lt, Int.ofNat_le, Int.toNat_natCast]
theorem geq_U8_l (t : TypeId) (x : BitVec 8) (b : Int) (hb : 0 ≤ b) : binOp .geq t (.int .u8 b) (U8 x) = pure (.bool (decide (x.toNat ≤ b.toNat))) := by
  obtain ⟨n, rfl⟩ := Int.eq_ofNat_of_zero_le hb
  simp only [U8, binOp_geq, GT.gt, GE.ge, Int.ofNat_lt, Int.ofNat_le, Int.toNat_natCast]
theorem guard_eql_U8 (t : TypeId) (p q : Operand) (x : BitVec 8) (v : Value) : eqGuard .eql t p q (U8 x) v = pure () := by
  simp only [eqGuard, U8]; rfl
theorem guard_eql_U8_l (t : TypeId) (p q : Operand) (y : BitVec 8) (k : IntKind) (a : Int) : eqGuard .eql t p q (.int k a) (U8 y) = pure () := by
  simp only [eqGuard, U8]; rfl
theorem guard_neq_U8 (t : TypeId) (p q : Operand) (x : BitVec 8) (v : Value) : eqGuard .neq t p q (U8 x) v = pure () := by
  simp only [eqGuard, U8]; rfl
theorem guard_neq_U8_l (t : TypeId) (p q : Operand) (y : BitVec 8) (k : IntKind) (a : Int) : eqGuard .neq t p q (.int k a) (U8 y) = pure () := by
  simp only [eqGuard, U8]; rfl
theorem shl_U8 (t : TypeId) (x : BitVec 8) (yk : IntKind) (c : Int) (hc : 0 ≤ c) : binOp .shl t (U8 x) (.int yk c) = pure (U8 (x <<< c.toNat)) := by
  have h : IntKind.u8.wrap ((x.toNat : Int) * 2 ^ min c.toNat 8) = ((x <<< c.toNat).toNat : Int) := by
    rw [wrap_u8', BitVec.toNat_shiftLeft, Nat.shiftLeft_eq]
    by_cases hh : c.toNat ≤ 8
    · rw [Nat.min_eq_left hh]
      show _ = ((x.toNat * 2 ^ c.toNat % 256 : Nat) : Int)
      simp only [Int.natCast_emod, Int.natCast_mul, Int.natCast_pow, Int.cast_ofNat_Int]
    · rw [Nat.min_eq_right (by omega)]
      have e : 2 ^ c.toNat = 2 ^ 8 * 2 ^ (c.toNat - 8) := by rw [← Nat.pow_add]; congr 1; omega
      have e2 : x.toNat * 2 ^ c.toNat % 2 ^ 8 = 0 := by
        rw [e, Nat.mul_left_comm]; exact Nat.mul_mod_right _ _
      rw [e2]
      exact Int.mul_emod_left _ _
  show Op.shift .shl .u8 _ yk c = _
  unfold Op.shift
  rw [if_neg (by omega)]
  simp only [U8, IntKind.bits, h]
theorem shr_U8 (t : TypeId) (x : BitVec 8) (yk : IntKind) (c : Int) (hc : 0 ≤ c) : binOp .shr t (U8 x) (.int yk c) = pure (U8 (x >>> c.toNat)) := by
  have h : Int.fdiv (x.toNat : Int) (2 ^ min c.toNat 8) = ((x >>> c.toNat).toNat : Int) := by
    rw [Int.fdiv_eq_ediv_of_nonneg _ (Int.pow_nonneg (by decide)), BitVec.toNat_ushiftRight, Nat.shiftRight_eq_div_pow]
    by_cases hh : c.toNat ≤ 8
    · rw [Nat.min_eq_left hh]
      simp only [Int.natCast_ediv, Int.natCast_pow, Int.cast_ofNat_Int]
    · rw [Nat.min_eq_right (by omega)]
      have hx := x.isLt
      have e : 2 ^ 8 ≤ 2 ^ c.toNat := Nat.pow_le_pow_right (by decide) (by omega)
      rw [Nat.div_eq_of_lt (by omega)]
      show ((x.toNat : Nat) : Int) / ((2 ^ 8 : Nat) : Int) = 0
      rw [← Int.natCast_ediv, Nat.div_eq_of_lt hx]
      rfl
  show Op.shift .shr .u8 _ yk c = _
  unfold Op.shift
  rw [if_neg (by omega)]
  simp only [U8, IntKind.bits, h]
theorem not_U8 (x : BitVec 8) : Op.unary .xor (U8 x) = pure (U8 (~~~x)) := by
  have e : BitVec.ofInt 8 (IntKind.u8.max) = BitVec.allOnes 8 := by decide
  have h : BitVec.ofInt 8 (IntKind.u8.max) ^^^ x = ~~~x := by rw [e, BitVec.allOnes_xor]
  simp only [U8, unary_xor, IntKind.signed, Op.intBits, IntKind.bits, Bool.false_eq_true, if_false, ofInt_u8, h, wrap_u8]; rfl
theorem store_U8 (P : Program) (w : World) (a : Addr) (m : Mode) (x : BitVec 8) : (store a (U8 x) m).run P w = stored P w a (U8 x) m := run_store P w a _ m rfl
theorem indexAt_U8 (t : TypeId) (b : Value) (x : BitVec 8) : Instr.indexAt t b (U8 x) = Instr.indexAt t b (.int .u8 (idx x : Int)) := rfl
theorem index_U8 (t : TypeId) (b : Value) (x : BitVec 8) : Instr.index t b (U8 x) = Instr.index t b (.int .u8 (idx x : Int)) := rfl
theorem conv_U8_U32 (P : Program) (w : World) (src dst : TypeId) (x : BitVec 8) (hs : (P.underlying src).isSome = true) (hd : P.underlying dst = some (.int .u32)) : (convert src dst (U8 x)).run P w = .ok (U32 (x.setWidth 32)) w := by
  obtain ⟨d, hd'⟩ := Option.isSome_iff_exists.mp hs
  have h : IntKind.u32.wrap (x.toNat : Int) = ((x.setWidth 32).toNat : Int) := by
    rw [wrap_u32', BitVec.toNat_setWidth]
    show _ = ((x.toNat % 4294967296 : Nat) : Int)
    omega
  simp [convert, run_underlying hd', run_underlying hd, Conv.intToInt, U8, U32, h]
theorem conv_U8_U64 (P : Program) (w : World) (src dst : TypeId) (x : BitVec 8) (hs : (P.underlying src).isSome = true) (hd : P.underlying dst = some (.int .u64)) : (convert src dst (U8 x)).run P w = .ok (U64 (x.setWidth 64)) w := by
  obtain ⟨d, hd'⟩ := Option.isSome_iff_exists.mp hs
  have h : IntKind.u64.wrap (x.toNat : Int) = ((x.setWidth 64).toNat : Int) := by
    rw [wrap_u64', BitVec.toNat_setWidth]
    show _ = ((x.toNat % 18446744073709551616 : Nat) : Int)
    omega
  simp [convert, run_underlying hd', run_underlying hd, Conv.intToInt, U8, U64, h]
theorem conv_U8_int (P : Program) (w : World) (src dst : TypeId) (x : BitVec 8) (hs : (P.underlying src).isSome = true) (hd : P.underlying dst = some (.int .i64)) : (convert src dst (U8 x)).run P w = .ok (.int .i64 (x.toNat : Int)) w := by
  obtain ⟨d, hd'⟩ := Option.isSome_iff_exists.mp hs
  have h : IntKind.i64.wrap (x.toNat : Int) = (x.toNat : Int) := by
    have := x.isLt
    exact IntWalk.i64_in _ ⟨by omega, by omega⟩
  simp [convert, run_underlying hd', run_underlying hd, Conv.intToInt, U8, h]
theorem add_U32 (t : TypeId) (x y : BitVec 32) : binOp .add t (U32 x) (U32 y) = pure (U32 (x + y)) := by
  simp only [U32, binOp_add, Op.intArith, wrap_u32, BitVec.ofInt_add, ofInt_u32]
theorem add_U32_r (t : TypeId) (x : BitVec 32) (b : Int) : binOp .add t (U32 x) (.int .u32 b) = pure (U32 (x + BitVec.ofInt 32 b)) := by
  simp only [U32, binOp_add, Op.intArith, wrap_u32, BitVec.ofInt_add, ofInt_u32]
theorem add_U32_l (t : TypeId) (a : Int) (y : BitVec 32) : binOp .add t (.int .u32 a) (U32 y) = pure (U32 (BitVec.ofInt 32 a + y)) := by
  simp only [U32, binOp_add, Op.intArith, wrap_u32, BitVec.ofInt_add, ofInt_u32]
theorem sub_U32 (t : TypeId) (x y : BitVec 32) : binOp .sub t (U32 x) (U32 y) = pure (U32 (x - y)) := by
  simp only [U32, binOp_sub, Op.intArith, wrap_u32, ofInt_sub', ofInt_u32]
theorem sub_U32_r (t : TypeId) (x : BitVec 32) (b : Int) : binOp .sub t (U32 x) (.int .u32 b) = pure (U32 (x - BitVec.ofInt 32 b)) := by
  simp only [U32, binOp_sub, Op.intArith, wrap_u32, ofInt_sub', ofInt_u32]
theorem sub_U32_l (t : TypeId) (a : Int) (y : BitVec 32) : binOp .sub t (.int .u32 a) (U32 y) = pure (U32 (BitVec.ofInt 32 a - y)) := by
  simp only [U32, binOp_sub, Op.intArith, wrap_u32, ofInt_sub', ofInt_u32]
theorem mul_U32 (t : TypeId) (x y : BitVec 32) : binOp .mul t (U32 x) (U32 y) = pure (U32 (x * y)) := by
  simp only [U32, binOp_mul, Op.intArith, wrap_u32, BitVec.ofInt_mul, ofInt_u32]
theorem mul_U32_r (t : TypeId) (x : BitVec 32) (b : Int) : binOp .mul t (U32 x) (.int .u32 b) = pure (U32 (x * BitVec.ofInt 32 b)) := by
  simp only [U32, binOp_mul, Op.intArith, wrap_u32, BitVec.ofInt_mul, ofInt_u32]
theorem mul_U32_l (t : TypeId) (a : Int) (y : BitVec 32) : binOp .mul t (.int .u32 a) (U32 y) = pure (U32 (BitVec.ofInt 32 a * y)) := by
  simp only [U32, binOp_mul, Op.intArith, wrap_u32, BitVec.ofInt_mul, ofInt_u32]
theorem and_U32 (t : TypeId) (x y : BitVec 32) : binOp .and t (U32 x) (U32 y) = pure (U32 (x &&& y)) := by
  simp only [U32, binOp_and, Op.intBits, IntKind.bits, ofInt_u32, wrap_u32]; rfl
theorem and_U32_r (t : TypeId) (x : BitVec 32) (b : Int) : binOp .and t (U32 x) (.int .u32 b) = pure (U32 (x &&& BitVec.ofInt 32 b)) := by
  simp only [U32, binOp_and, Op.intBits, IntKind.bits, ofInt_u32, wrap_u32]; rfl
theorem and_U32_l (t : TypeId) (a : Int) (y : BitVec 32) : binOp .and t (.int .u32 a) (U32 y) = pure (U32 (BitVec.ofInt 32 a &&& y)) := by
  simp only [U32, binOp_and, Op.intBits, IntKind.bits, ofInt_u32, wrap_u32]; rfl
theorem or_U32 (t : TypeId) (x y : BitVec 32) : binOp .or t (U32 x) (U32 y) = pure (U32 (x ||| y)) := by
  simp only [U32, binOp_or, Op.intBits, IntKind.bits, ofInt_u32, wrap_u32]; rfl
theorem or_U32_r (t : TypeId) (x : BitVec 32) (b : Int) : binOp .or t (U32 x) (.int .u32 b) = pure (U32 (x ||| BitVec.ofInt 32 b)) := by
  simp only [U32, binOp_or, Op.intBits, IntKind.bits, ofInt_u32, wrap_u32]; rfl
theorem or_U32_l (t : TypeId) (a : Int) (y : BitVec 32) : binOp .or t (.int .u32 a) (U32 y) = pure (U32 (BitVec.ofInt 32 a ||| y)) := by
  simp only [U32, binOp_or, Op.intBits, IntKind.bits, ofInt_u32, wrap_u32]; rfl
theorem xor_U32 (t : TypeId) (x y : BitVec 32) : binOp .xor t (U32 x) (U32 y) = pure (U32 (x ^^^ y)) := by
  simp only [U32, binOp_xor, Op.intBits, IntKind.bits, ofInt_u32, wrap_u32]; rfl
theorem xor_U32_r (t : TypeId) (x : BitVec 32) (b : Int) : binOp .xor t (U32 x) (.int .u32 b) = pure (U32 (x ^^^ BitVec.ofInt 32 b)) := by
  simp only [U32, binOp_xor, Op.intBits, IntKind.bits, ofInt_u32, wrap_u32]; rfl
theorem xor_U32_l (t : TypeId) (a : Int) (y : BitVec 32) : binOp .xor t (.int .u32 a) (U32 y) = pure (U32 (BitVec.ofInt 32 a ^^^ y)) := by
  simp only [U32, binOp_xor, Op.intBits, IntKind.bits, ofInt_u32, wrap_u32]; rfl
theorem andNot_U32 (t : TypeId) (x y : BitVec 32) : binOp .andNot t (U32 x) (U32 y) = pure (U32 (x &&& ~~~y)) := by
  simp only [U32, binOp_andNot, Op.intBits, IntKind.bits, ofInt_u32, wrap_u32]; rfl
theorem andNot_U32_r (t : TypeId) (x : BitVec 32) (b : Int) : binOp .andNot t (U32 x) (.int .u32 b) = pure (U32 (x &&& ~~~BitVec.ofInt 32 b)) := by
  simp only [U32, binOp_andNot, Op.intBits, IntKind.bits, ofInt_u32, wrap_u32]; rfl
theorem andNot_U32_l (t : TypeId) (a : Int) (y : BitVec 32) : binOp .andNot t (.int .u32 a) (U32 y) = pure (U32 (BitVec.ofInt 32 a &&& ~~~y)) := by
  simp only [U32, binOp_andNot, Op.intBits, IntKind.bits, ofInt_u32, wrap_u32]; rfl
theorem eql_U32 (t : TypeId) (x y : BitVec 32) : binOp .eql t (U32 x) (U32 y) = pure (.bool (x == y)) := by
  have h : ((x.toNat : Int) == (y.toNat : Int)) = (x == y) := by
    rw [Bool.eq_iff_iff, beq_iff_eq, beq_iff_eq]
    exact ⟨fun h => BitVec.eq_of_toNat_eq (by omega), fun h => by rw [h]⟩
  simp only [U32, binOp_eql, bne, h]
theorem eql_U32_r (t : TypeId) (x : BitVec 32) (b : Int) (hb : 0 ≤ b ∧ b < 4294967296) : binOp .eql t (U32 x) (.int .u32 b) = pure (.bool (x == BitVec.ofNat 32 b.toNat)) := by rw [U32_raw b hb]; exact eql_U32 t _ _
theorem eql_U32_l (t : TypeId) (x : BitVec 32) (b : Int) (hb : 0 ≤ b ∧ b < 4294967296) : binOp .eql t (.int .u32 b) (U32 x) = pure (.bool (BitVec.ofNat 32 b.toNat == x)) := by rw [U32_raw b hb]; exact eql_U32 t _ _
theorem neq_U32 (t : TypeId) (x y : BitVec 32) : binOp .neq t (U32 x) (U32 y) = pure (.bool (x != y)) := by
  have h : ((x.toNat : Int) == (y.toNat : Int)) = (x == y) := by
    rw [Bool.eq_iff_iff, beq_iff_eq, beq_iff_eq]
    exact ⟨fun h => BitVec.eq_of_toNat_eq (by omega), fun h => by rw [h]⟩
  simp only [U32, binOp_neq, bne, h]
theorem neq_U32_r (t : TypeId) (x : BitVec 32) (b : Int) (hb : 0 ≤ b ∧ b < 4294967296) : binOp .neq t (U32 x) (.int .u32 b) = pure (.bool (x != BitVec.ofNat 32 b.toNat)) := by rw [U32_raw b hb]; exact neq_U32 t _ _
theorem neq_U32_l (t : TypeId) (x : BitVec 32) (b : Int) (hb : 0 ≤ b ∧ b < 4294967296) : binOp .neq t (.int .u32 b) (U32 x) = pure (.bool (BitVec.ofNat 32 b.toNat != x)) := by rw [U32_raw b hb]; exact neq_U32 t _ _
theorem lss_U32 (t : TypeId) (x y : BitVec 32) : binOp .lss t (U32 x) (U32 y) = pure (.bool (decide (x.toNat < y.toNat))) := by simp only [U32, binOp_lss, GT.gt, GE.ge, Int.ofNat_lt, Int.ofNat_le]
theorem lss_U32_r (t : TypeId) (x : BitVec 32) (b : Int) (hb : 0 ≤ b) : binOp .lss t (U32 x) (.int .u32 b) = pure (.bool (decide (x.toNat < b.toNat))) := by
  obtain ⟨n, rfl⟩ := Int.eq_ofNat_of_zero_le hb
  simp only [U32, binOp_lss, GT.gt, GE.ge, Int.ofNat_lt, Int.ofNat_le, Int.toNat_natCast]
theorem lss_U32_l (t : TypeId) (x : BitVec 32) (b : Int) (hb : 0 ≤ b) : binOp .lss t (.int .u32 b) (U32 x) = pure (.bool (decide (b.toNat < x.toNat))) := by
  obtain ⟨n, rfl⟩ := Int.eq_ofNat_of_zero_le hb
  simp only [U32, binOp_lss, GT.gt, GE.ge, Int.ofNat_lt, Int.ofNat_le, Int.toNat_natCast]
theorem leq_U32 (t : TypeId) (x y : BitVec 32) : binOp .leq t (U32 x) (U32 y) = pure (.bool (decide (x.toNat ≤ y.toNat))) := by simp only [U32, binOp_leq, GT.gt, GE.ge, Int.ofNat_lt, Int.ofNat_le]
theorem leq_U32_r (t : TypeId) (x : BitVec 32) (b : Int) (hb : 0 ≤ b) : binOp .leq t (U32 x) (.int .u32 b) = pure (.bool (decide (x.toNat ≤ b.toNat))) := by
  obtain ⟨n, rfl⟩ := Int.eq_ofNat_of_zero_le hb
  simp only [U32, binOp_leq, GT.gt, GE.ge, Int.ofNat_lt, Int.ofNat_le, Int.toNat_natCast]
theorem leq_U32_l (t : TypeId) (x : BitVec 32) (b : Int) (hb : 0 ≤ b) : binOp .leq t (.int .u32 b) (U32 x) = pure (.bool (decide (b.toNat ≤ x.toNat))) := by
  obtain ⟨n, rfl⟩ := Int.eq_ofNat_of_zero_le hb
  simp only [U32, binOp_leq, GT.gt, GE.ge, Int.ofNat_lt, Int.ofNat_le, Int.toNat_natCast]
theorem gtr_U32 (t : TypeId) (x y : BitVec 32) : binOp .gtr t (U32 x) (U32 y) = pure (.bool (decide (y.toNat < x.toNat))) := by simp only [U32, binOp_gtr, GT.gt, GE.ge, Int.ofNat_lt, Int.ofNat_le]
theorem gtr_U32_r (t : TypeId) (x : BitVec 32) (b : Int) (hb : 0 ≤ b) : binOp .gtr t (U32 x) (.int .u32 b) = pure (.bool (decide (b.toNat < x.toNat))) := by
  obtain ⟨n, rfl⟩ := Int.eq_ofNat_of_zero_le hb
  simp only [U32, binOp_gtr, GT.gt, GE.ge, Int.ofNat_lt, Int.ofNat_le, Int.toNat_natCast]
theorem gtr_U32_l (t : TypeId) (x : BitVec 32) (b : Int) (hb : 0 ≤ b) : binOp .gtr t (.int .u32 b) (U32 x) = pure (.bool (decide (x.toNat < b.toNat))) := by
  obtain ⟨n, rfl⟩ := Int.eq_ofNat_of_zero_le hb
  simp only [U32, binOp_gtr, GT.gt, GE.ge, Int.ofNat_lt, Int.ofNat_le, Int.toNat_natCast]
theorem geq_U32 (t : TypeId) (x y : BitVec 32) : binOp .geq t (U32 x) (U32 y) = pure (.bool (decide (y.toNat ≤ x.toNat))) := by simp only [U32, binOp_geq, GT.gt, GE.ge, Int.ofNat_lt, Int.ofNat_le]
theorem geq_U32_r (t : TypeId) (x : BitVec 32) (b : Int) (hb : 0 ≤ b) : binOp .geq t (U32 x) (.int .u32 b) = pure (.bool (decide (b.toNat ≤ x.toNat))) := by
  obtain ⟨n, rfl⟩ := Int.eq_ofNat_of_zero_le hb
  simp only [U32, binOp_geq, GT.gt, GE.ge, Int.ofNat_lt, Int.ofNat_le, Int.toNat_natCast]
theorem geq_U32_l (t : TypeId) (x : BitVec 32) (b : Int) (hb : 0 ≤ b) : binOp .geq t (.int .u32 b) (U32 x) = pure (.bool (decide (x.toNat ≤ b.toNat))) := by
  obtain ⟨n, rfl⟩ := Int.eq_ofNat_of_zero_le hb
  simp only [U32, binOp_geq, GT.gt, GE.ge, Int.ofNat_lt, Int.ofNat_le, Int.toNat_natCast]
theorem guard_eql_U32 (t : TypeId) (p q : Operand) (x : BitVec 32) (v : Value) : eqGuard .eql t p q (U32 x) v = pure () := by
  simp only [eqGuard, U32]; rfl
theorem guard_eql_U32_l (t : TypeId) (p q : Operand) (y : BitVec 32) (k : IntKind) (a : Int) : eqGuard .eql t p q (.int k a) (U32 y) = pure () := by
  simp only [eqGuard, U32]; rfl
theorem guard_neq_U32 (t : TypeId) (p q : Operand) (x : BitVec 32) (v : Value) : eqGuard .neq t p q (U32 x) v = pure () := by
  simp only [eqGuard, U32]; rfl
theorem guard_neq_U32_l (t : TypeId) (p q : Operand) (y : BitVec 32) (k : IntKind) (a : Int) : eqGuard .neq t p q (.int k a) (U32 y) = pure () := by
  simp only [eqGuard, U32]; rfl
theorem shl_U32 (t : TypeId) (x : BitVec 32) (yk : IntKind) (c : Int) (hc : 0 ≤ c) : binOp .shl t (U32 x) (.int yk c) = pure (U32 (x <<< c.toNat)) := by
  have h : IntKind.u32.wrap ((x.toNat : Int) * 2 ^ min c.toNat 32) = ((x <<< c.toNat).toNat : Int) := by
    rw [wrap_u32', BitVec.toNat_shiftLeft, Nat.shiftLeft_eq]
    by_cases hh : c.toNat ≤ 32
    · rw [Nat.min_eq_left hh]
      show _ = ((x.toNat * 2 ^ c.toNat % 4294967296 : Nat) : Int)
      simp only [Int.natCast_emod, Int.natCast_mul, Int.natCast_pow, Int.cast_ofNat_Int]
    · rw [Nat.min_eq_right (by omega)]
      have e : 2 ^ c.toNat = 2 ^ 32 * 2 ^ (c.toNat - 32) := by rw [← Nat.pow_add]; congr 1; omega
      have e2 : x.toNat * 2 ^ c.toNat % 2 ^ 32 = 0 := by
        rw [e, Nat.mul_left_comm]; exact Nat.mul_mod_right _ _
      rw [e2]
      exact Int.mul_emod_left _ _
  show Op.shift .shl .u32 _ yk c = _
  unfold Op.shift
  rw [if_neg (by omega)]
  simp only [U32, IntKind.bits, h]
theorem shr_U32 (t : TypeId) (x : BitVec 32) (yk : IntKind) (c : Int) (hc : 0 ≤ c) : binOp .shr t (U32 x) (.int yk c) = pure (U32 (x >>> c.toNat)) := by
  have h : Int.fdiv (x.toNat : Int) (2 ^ min c.toNat 32) = ((x >>> c.toNat).toNat : Int) := by
    rw [Int.fdiv_eq_ediv_of_nonneg _ (Int.pow_nonneg (by decide)), BitVec.toNat_ushiftRight, Nat.shiftRight_eq_div_pow]
    by_cases hh : c.toNat ≤ 32
    · rw [Nat.min_eq_left hh]
      simp only [Int.natCast_ediv, Int.natCast_pow, Int.cast_ofNat_Int]
    · rw [Nat.min_eq_right (by omega)]
      have hx := x.isLt
      have e : 2 ^ 32 ≤ 2 ^ c.toNat := Nat.pow_le_pow_right (by decide) (by omega)
      rw [Nat.div_eq_of_lt (by omega)]
      show ((x.toNat : Nat) : Int) / ((2 ^ 32 : Nat) : Int) = 0
      rw [← Int.natCast_ediv, Nat.div_eq_of_lt hx]
      rfl
  show Op.shift .shr .u32 _ yk c = _
  unfold Op.shift
  rw [if_neg (by omega)]
  simp only [U32, IntKind.bits, h]
theorem not_U32 (x : BitVec 32) : Op.unary .xor (U32 x) = pure (U32 (~~~x)) := by
  have e : BitVec.ofInt 32 (IntKind.u32.max) = BitVec.allOnes 32 := by decide
  have h : BitVec.ofInt 32 (IntKind.u32.max) ^^^ x = ~~~x := by rw [e, BitVec.allOnes_xor]
  simp only [U32, unary_xor, IntKind.signed, Op.intBits, IntKind.bits, Bool.false_eq_true, if_false, ofInt_u32, h, wrap_u32]; rfl
theorem store_U32 (P : Program) (w : World) (a : Addr) (m : Mode) (x : BitVec 32) : (store a (U32 x) m).run P w = stored P w a (U32 x) m := run_store P w a _ m rfl
theorem indexAt_U32 (t : TypeId) (b : Value) (x : BitVec 32) : Instr.indexAt t b (U32 x) = Instr.indexAt t b (.int .u32 (idx x : Int)) := rfl
theorem index_U32 (t : TypeId) (b : Value) (x : BitVec 32) : Instr.index t b (U32 x) = Instr.index t b (.int .u32 (idx x : Int)) := rfl
theorem conv_U32_U8 (P : Program) (w : World) (src dst : TypeId) (x : BitVec 32) (hs : (P.underlying src).isSome = true) (hd : P.underlying dst = some (.int .u8)) : (convert src dst (U32 x)).run P w = .ok (U8 (x.setWidth 8)) w := by
  obtain ⟨d, hd'⟩ := Option.isSome_iff_exists.mp hs
  have h : IntKind.u8.wrap (x.toNat : Int) = ((x.setWidth 8).toNat : Int) := by
    rw [wrap_u8', BitVec.toNat_setWidth]
    show _ = ((x.toNat % 256 : Nat) : Int)
    omega
  simp [convert, run_underlying hd', run_underlying hd, Conv.intToInt, U32, U8, h]
theorem conv_U32_U64 (P : Program) (w : World) (src dst : TypeId) (x : BitVec 32) (hs : (P.underlying src).isSome = true) (hd : P.underlying dst = some (.int .u64)) : (convert src dst (U32 x)).run P w = .ok (U64 (x.setWidth 64)) w := by
  obtain ⟨d, hd'⟩ := Option.isSome_iff_exists.mp hs
  have h : IntKind.u64.wrap (x.toNat : Int) = ((x.setWidth 64).toNat : Int) := by
    rw [wrap_u64', BitVec.toNat_setWidth]
    show _ = ((x.toNat % 18446744073709551616 : Nat) : Int)
    omega
  simp [convert, run_underlying hd', run_underlying hd, Conv.intToInt, U32, U64, h]
theorem conv_U32_int (P : Program) (w : World) (src dst : TypeId) (x : BitVec 32) (hs : (P.underlying src).isSome = true) (hd : P.underlying dst = some (.int .i64)) : (convert src dst (U32 x)).run P w = .ok (.int .i64 (x.toNat : Int)) w := by
  obtain ⟨d, hd'⟩ := Option.isSome_iff_exists.mp hs
  have h : IntKind.i64.wrap (x.toNat : Int) = (x.toNat : Int) := by
    have := x.isLt
    exact IntWalk.i64_in _ ⟨by omega, by omega⟩
  simp [convert, run_underlying hd', run_underlying hd, Conv.intToInt, U32, h]
theorem add_U64 (t : TypeId) (x y : BitVec 64) : binOp .add t (U64 x) (U64 y) = pure (U64 (x + y)) := by
  simp only [U64, binOp_add, Op.intArith, wrap_u64, BitVec.ofInt_add, ofInt_u64]
theorem add_U64_r (t : TypeId) (x : BitVec 64) (b : Int) : binOp .add t (U64 x) (.int .u64 b) = pure (U64 (x + BitVec.ofInt 64 b)) := by
  simp only [U64, binOp_add, Op.intArith, wrap_u64, BitVec.ofInt_add, ofInt_u64]
theorem add_U64_l (t : TypeId) (a : Int) (y : BitVec 64) : binOp .add t (.int .u64 a) (U64 y) = pure (U64 (BitVec.ofInt 64 a + y)) := by
  simp only [U64, binOp_add, Op.intArith, wrap_u64, BitVec.ofInt_add, ofInt_u64]
theorem sub_U64 (t : TypeId) (x y : BitVec 64) : binOp .sub t (U64 x) (U64 y) = pure (U64 (x - y)) := by
  simp only [U64, binOp_sub, Op.intArith, wrap_u64, ofInt_sub', ofInt_u64]
theorem sub_U64_r (t : TypeId) (x : BitVec 64) (b : Int) : binOp .sub t (U64 x) (.int .u64 b) = pure (U64 (x - BitVec.ofInt 64 b)) := by
  simp only [U64, binOp_sub, Op.intArith, wrap_u64, ofInt_sub', ofInt_u64]
theorem sub_U64_l (t : TypeId) (a : Int) (y : BitVec 64) : binOp .sub t (.int .u64 a) (U64 y) = pure (U64 (BitVec.ofInt 64 a - y)) := by
  simp only [U64, binOp_sub, Op.intArith, wrap_u64, ofInt_sub', ofInt_u64]
theorem mul_U64 (t : TypeId) (x y : BitVec 64) : binOp .mul t (U64 x) (U64 y) = pure (U64 (x * y)) := by
  simp only [U64, binOp_mul, Op.intArith, wrap_u64, BitVec.ofInt_mul, ofInt_u64]
theorem mul_U64_r (t : TypeId) (x : BitVec 64) (b : Int) : binOp .mul t (U64 x) (.int .u64 b) = pure (U64 (x * BitVec.ofInt 64 b)) := by
  simp only [U64, binOp_mul, Op.intArith, wrap_u64, BitVec.ofInt_mul, ofInt_u64]
theorem mul_U64_l (t : TypeId) (a : Int) (y : BitVec 64) : binOp .mul t (.int .u64 a) (U64 y) = pure (U64 (BitVec.ofInt 64 a * y)) := by
  simp only [U64, binOp_mul, Op.intArith, wrap_u64, BitVec.ofInt_mul, ofInt_u64]
theorem and_U64 (t : TypeId) (x y : BitVec 64) : binOp .and t (U64 x) (U64 y) = pure (U64 (x &&& y)) := by
  simp only [U64, binOp_and, Op.intBits, IntKind.bits, ofInt_u64, wrap_u64]; rfl
theorem and_U64_r (t : TypeId) (x : BitVec 64) (b : Int) : binOp .and t (U64 x) (.int .u64 b) = pure (U64 (x &&& BitVec.ofInt 64 b)) := by
  simp only [U64, binOp_and, Op.intBits, IntKind.bits, ofInt_u64, wrap_u64]; rfl
theorem and_U64_l (t : TypeId) (a : Int) (y : BitVec 64) : binOp .and t (.int .u64 a) (U64 y) = pure (U64 (BitVec.ofInt 64 a &&& y)) := by
  simp only [U64, binOp_and, Op.intBits, IntKind.bits, ofInt_u64, wrap_u64]; rfl
theorem or_U64 (t : TypeId) (x y : BitVec 64) : binOp .or t (U64 x) (U64 y) = pure (U64 (x ||| y)) := by
  simp only [U64, binOp_or, Op.intBits, IntKind.bits, ofInt_u64, wrap_u64]; rfl
theorem or_U64_r (t : TypeId) (x : BitVec 64) (b : Int) : binOp .or t (U64 x) (.int .u64 b) = pure (U64 (x ||| BitVec.ofInt 64 b)) := by
  simp only [U64, binOp_or, Op.intBits, IntKind.bits, ofInt_u64, wrap_u64]; rfl
theorem or_U64_l (t : TypeId) (a : Int) (y : BitVec 64) : binOp .or t (.int .u64 a) (U64 y) = pure (U64 (BitVec.ofInt 64 a ||| y)) := by
  simp only [U64, binOp_or, Op.intBits, IntKind.bits, ofInt_u64, wrap_u64]; rfl
theorem xor_U64 (t : TypeId) (x y : BitVec 64) : binOp .xor t (U64 x) (U64 y) = pure (U64 (x ^^^ y)) := by
  simp only [U64, binOp_xor, Op.intBits, IntKind.bits, ofInt_u64, wrap_u64]; rfl
theorem xor_U64_r (t : TypeId) (x : BitVec 64) (b : Int) : binOp .xor t (U64 x) (.int .u64 b) = pure (U64 (x ^^^ BitVec.ofInt 64 b)) := by
  simp only [U64, binOp_xor, Op.intBits, IntKind.bits, ofInt_u64, wrap_u64]; rfl
theorem xor_U64_l (t : TypeId) (a : Int) (y : BitVec 64) : binOp .xor t (.int .u64 a) (U64 y) = pure (U64 (BitVec.ofInt 64 a ^^^ y)) := by
  simp only [U64, binOp_xor, Op.intBits, IntKind.bits, ofInt_u64, wrap_u64]; rfl
theorem andNot_U64 (t : TypeId) (x y : BitVec 64) : binOp .andNot t (U64 x) (U64 y) = pure (U64 (x &&& ~~~y)) := by
  simp only [U64, binOp_andNot, Op.intBits, IntKind.bits, ofInt_u64, wrap_u64]; rfl
theorem andNot_U64_r (t : TypeId) (x : BitVec 64) (b : Int) : binOp .andNot t (U64 x) (.int .u64 b) = pure (U64 (x &&& ~~~BitVec.ofInt 64 b)) := by
  simp only [U64, binOp_andNot, Op.intBits, IntKind.bits, ofInt_u64, wrap_u64]; rfl
theorem andNot_U64_l (t : TypeId) (a : Int) (y : BitVec 64) : binOp .andNot t (.int .u64 a) (U64 y) = pure (U64 (BitVec.ofInt 64 a &&& ~~~y)) := by
  simp only [U64, binOp_andNot, Op.intBits, IntKind.bits, ofInt_u64, wrap_u64]; rfl
theorem eql_U64 (t : TypeId) (x y : BitVec 64) : binOp .eql t (U64 x) (U64 y) = pure (.bool (x == y)) := by
  have h : ((x.toNat : Int) == (y.toNat : Int)) = (x == y) := by
    rw [Bool.eq_iff_iff, beq_iff_eq, beq_iff_eq]
    exact ⟨fun h => BitVec.eq_of_toNat_eq (by omega), fun h => by rw [h]⟩
  simp only [U64, binOp_eql, bne, h]
theorem eql_U64_r (t : TypeId) (x : BitVec 64) (b : Int) (hb : 0 ≤ b ∧ b < 18446744073709551616) : binOp .eql t (U64 x) (.int .u64 b) = pure (.bool (x == BitVec.ofNat 64 b.toNat)) := by rw [U64_raw b hb]; exact eql_U64 t _ _
theorem eql_U64_l (t : TypeId) (x : BitVec 64) (b : Int) (hb : 0 ≤ b ∧ b < 18446744073709551616) : binOp .eql t (.int .u64 b) (U64 x) = pure (.bool (BitVec.ofNat 64 b.toNat == x)) := by rw [U64_raw b hb]; exact eql_U64 t _ _
theorem neq_U64 (t : TypeId) (x y : BitVec 64) : binOp .neq t (U64 x) (U64 y) = pure (.bool (x != y)) := by
  have h : ((x.toNat : Int) == (y.toNat : Int)) = (x == y) := by
    rw [Bool.eq_iff_iff, beq_iff_eq, beq_iff_eq]
    exact ⟨fun h => BitVec.eq_of_toNat_eq (by omega), fun h => by rw [h]⟩
  simp only [U64, binOp_neq, bne, h]
theorem neq_U64_r (t : TypeId) (x : BitVec 64) (b : Int) (hb : 0 ≤ b ∧ b < 18446744073709551616) : binOp .neq t (U64 x) (.int .u64 b) = pure (.bool (x != BitVec.ofNat 64 b.toNat)) := by rw [U64_raw b hb]; exact neq_U64 t _ _
theorem neq_U64_l (t : TypeId) (x : BitVec 64) (b : Int) (hb : 0 ≤ b ∧ b < 18446744073709551616) : binOp .neq t (.int .u64 b) (U64 x) = pure (.bool (BitVec.ofNat 64 b.toNat != x)) := by rw [U64_raw b hb]; exact neq_U64 t _ _
theorem lss_U64 (t : TypeId) (x y : BitVec 64) : binOp .lss t (U64 x) (U64 y) = pure (.bool (decide (x.toNat < y.toNat))) := by simp only [U64, binOp_lss, GT.gt, GE.ge, Int.ofNat_lt, Int.ofNat_le]
theorem lss_U64_r (t : TypeId) (x : BitVec 64) (b : Int) (hb : 0 ≤ b) : binOp .lss t (U64 x) (.int .u64 b) = pure (.bool (decide (x.toNat < b.toNat))) := by
  obtain ⟨n, rfl⟩ := Int.eq_ofNat_of_zero_le hb
  simp only [U64, binOp_lss, GT.gt, GE.ge, Int.ofNat_lt, Int.ofNat_le, Int.toNat_natCast]
theorem lss_U64_l (t : TypeId) (x : BitVec 64) (b : Int) (hb : 0 ≤ b) : binOp .lss t (.int .u64 b) (U64 x) = pure (.bool (decide (b.toNat < x.toNat))) := by
  obtain ⟨n, rfl⟩ := Int.eq_ofNat_of_zero_le hb
  simp only [U64, binOp_lss, GT.gt, GE.ge, Int.ofNat_lt, Int.ofNat_le, Int.toNat_natCast]
theorem leq_U64 (t : TypeId) (x y : BitVec 64) : binOp .leq t (U64 x) (U64 y) = pure (.bool (decide (x.toNat ≤ y.toNat))) := by simp only [U64, binOp_leq, GT.gt, GE.ge, Int.ofNat_lt, Int.ofNat_le]
theorem leq_U64_r (t : TypeId) (x : BitVec 64) (b : Int) (hb : 0 ≤ b) : binOp .leq t (U64 x) (.int .u64 b) = pure (.bool (decide (x.toNat ≤ b.toNat))) := by
  obtain ⟨n, rfl⟩ := Int.eq_ofNat_of_zero_le hb
  simp only [U64, binOp_leq, GT.gt, GE.ge, Int.ofNat_lt, Int.ofNat_le, Int.toNat_natCast]
theorem leq_U64_l (t : TypeId) (x : BitVec 64) (b : Int) (hb : 0 ≤ b) : binOp .leq t (.int .u64 b) (U64 x) = pure (.bool (decide (b.toNat ≤ x.toNat))) := by
  obtain ⟨n, rfl⟩ := Int.eq_ofNat_of_zero_le hb
  simp only [U64, binOp_leq, GT.gt, GE.ge, Int.ofNat_lt, Int.ofNat_le, Int.toNat_natCast]
theorem gtr_U64 (t : TypeId) (x y : BitVec 64) : binOp .gtr t (U64 x) (U64 y) = pure (.bool (decide (y.toNat < x.toNat))) := by simp only [U64, binOp_gtr, GT.gt, GE.ge, Int.ofNat_lt, Int.ofNat_le]
theorem gtr_U64_r (t : TypeId) (x : BitVec 64) (b : Int) (hb : 0 ≤ b) : binOp .gtr t (U64 x) (.int .u64 b) = pure (.bool (decide (b.toNat < x.toNat))) := by
  obtain ⟨n, rfl⟩ := Int.eq_ofNat_of_zero_le hb
  simp only [U64, binOp_gtr, GT.gt, GE.ge, Int.ofNat_lt, Int.ofNat_le, Int.toNat_natCast]
theorem gtr_U64_l (t : TypeId) (x : BitVec 64) (b : Int) (hb : 0 ≤ b) : binOp .gtr t (.int .u64 b) (U64 x) = pure (.bool (decide (x.toNat < b.toNat))) := by
  obtain ⟨n, rfl⟩ := Int.eq_ofNat_of_zero_le hb
  simp only [U64, binOp_gtr, GT.gt, GE.ge, Int.ofNat_lt, Int.ofNat_le, Int.toNat_natCast]
theorem geq_U64 (t : TypeId) (x y : BitVec 64) : binOp .geq t (U64 x) (U64 y) = pure (.bool (decide (y.toNat ≤ x.toNat))) := by simp only [U64, binOp_geq, GT.gt, GE.ge, Int.ofNat_lt, Int.ofNat_le]
theorem geq_U64_r (t : TypeId) (x : BitVec 64) (b : Int) (hb : 0 ≤ b) : binOp .geq t (U64 x) (.int .u64 b) = pure (.bool (decide (b.toNat ≤ x.toNat))) := by
  obtain ⟨n, rfl⟩ := Int.eq_ofNat_of_zero_le hb
  simp only [U64, binOp_geq, GT.gt, GE.ge, Int.ofNat_lt, Int.ofNat_le, Int.toNat_natCast]
theorem geq_U64_l (t : TypeId) (x : BitVec 64) (b : Int) (hb : 0 ≤ b) : binOp .geq t (.int .u64 b) (U64 x) = pure (.bool (decide (x.toNat ≤ b.toNat))) := by
  obtain ⟨n, rfl⟩ := Int.eq_ofNat_of_zero_le hb
  simp only [U64, binOp_geq, GT.gt, GE.ge, Int.ofNat_lt, Int.ofNat_le, Int.toNat_natCast]
theorem guard_eql_U64 (t : TypeId) (p q : Operand) (x : BitVec 64) (v : Value) : eqGuard .eql t p q (U64 x) v = pure () := by
  simp only [eqGuard, U64]; rfl
theorem guard_eql_U64_l (t : TypeId) (p q : Operand) (y : BitVec 64) (k : IntKind) (a : Int) : eqGuard .eql t p q (.int k a) (U64 y) = pure () := by
  simp only [eqGuard, U64]; rfl
theorem guard_neq_U64 (t : TypeId) (p q : Operand) (x : BitVec 64) (v : Value) : eqGuard .neq t p q (U64 x) v = pure () := by
  simp only [eqGuard, U64]; rfl
theorem guard_neq_U64_l (t : TypeId) (p q : Operand) (y : BitVec 64) (k : IntKind) (a : Int) : eqGuard .neq t p q (.int k a) (U64 y) = pure () := by
  simp only [eqGuard, U64]; rfl
theorem shl_U64 (t : TypeId) (x : BitVec 64) (yk : IntKind) (c : Int) (hc : 0 ≤ c) : binOp .shl t (U64 x) (.int yk c) = pure (U64 (x <<< c.toNat)) := by
  have h : IntKind.u64.wrap ((x.toNat : Int) * 2 ^ min c.toNat 64) = ((x <<< c.toNat).toNat : Int) := by
    rw [wrap_u64', BitVec.toNat_shiftLeft, Nat.shiftLeft_eq]
    by_cases hh : c.toNat ≤ 64
    · rw [Nat.min_eq_left hh]
      show _ = ((x.toNat * 2 ^ c.toNat % 18446744073709551616 : Nat) : Int)
      simp only [Int.natCast_emod, Int.natCast_mul, Int.natCast_pow, Int.cast_ofNat_Int]
    · rw [Nat.min_eq_right (by omega)]
      have e : 2 ^ c.toNat = 2 ^ 64 * 2 ^ (c.toNat - 64) := by rw [← Nat.pow_add]; congr 1; omega
      have e2 : x.toNat * 2 ^ c.toNat % 2 ^ 64 = 0 := by
        rw [e, Nat.mul_left_comm]; exact Nat.mul_mod_right _ _
      rw [e2]
      exact Int.mul_emod_left _ _
  show Op.shift .shl .u64 _ yk c = _
  unfold Op.shift
  rw [if_neg (by omega)]
  simp only [U64, IntKind.bits, h]
theorem shr_U64 (t : TypeId) (x : BitVec 64) (yk : IntKind) (c : Int) (hc : 0 ≤ c) : binOp .shr t (U64 x) (.int yk c) = pure (U64 (x >>> c.toNat)) := by
  have h : Int.fdiv (x.toNat : Int) (2 ^ min c.toNat 64) = ((x >>> c.toNat).toNat : Int) := by
    rw [Int.fdiv_eq_ediv_of_nonneg _ (Int.pow_nonneg (by decide)), BitVec.toNat_ushiftRight, Nat.shiftRight_eq_div_pow]
    by_cases hh : c.toNat ≤ 64
    · rw [Nat.min_eq_left hh]
      simp only [Int.natCast_ediv, Int.natCast_pow, Int.cast_ofNat_Int]
    · rw [Nat.min_eq_right (by omega)]
      have hx := x.isLt
      have e : 2 ^ 64 ≤ 2 ^ c.toNat := Nat.pow_le_pow_right (by decide) (by omega)
      rw [Nat.div_eq_of_lt (by omega)]
      show ((x.toNat : Nat) : Int) / ((2 ^ 64 : Nat) : Int) = 0
      rw [← Int.natCast_ediv, Nat.div_eq_of_lt hx]
      rfl
  show Op.shift .shr .u64 _ yk c = _
  unfold Op.shift
  rw [if_neg (by omega)]
  simp only [U64, IntKind.bits, h]
theorem not_U64 (x : BitVec 64) : Op.unary .xor (U64 x) = pure (U64 (~~~x)) := by
  have e : BitVec.ofInt 64 (IntKind.u64.max) = BitVec.allOnes 64 := by decide
  have h : BitVec.ofInt 64 (IntKind.u64.max) ^^^ x = ~~~x := by rw [e, BitVec.allOnes_xor]
  simp only [U64, unary_xor, IntKind.signed, Op.intBits, IntKind.bits, Bool.false_eq_true, if_false, ofInt_u64, h, wrap_u64]; rfl
theorem store_U64 (P : Program) (w : World) (a : Addr) (m : Mode) (x : BitVec 64) : (store a (U64 x) m).run P w = stored P w a (U64 x) m := run_store P w a _ m rfl
theorem indexAt_U64 (t : TypeId) (b : Value) (x : BitVec 64) : Instr.indexAt t b (U64 x) = Instr.indexAt t b (.int .u64 (idx x : Int)) := rfl
theorem index_U64 (t : TypeId) (b : Value) (x : BitVec 64) : Instr.index t b (U64 x) = Instr.index t b (.int .u64 (idx x : Int)) := rfl
theorem conv_U64_U8 (P : Program) (w : World) (src dst : TypeId) (x : BitVec 64) (hs : (P.underlying src).isSome = true) (hd : P.underlying dst = some (.int .u8)) : (convert src dst (U64 x)).run P w = .ok (U8 (x.setWidth 8)) w := by
  obtain ⟨d, hd'⟩ := Option.isSome_iff_exists.mp hs
  have h : IntKind.u8.wrap (x.toNat : Int) = ((x.setWidth 8).toNat : Int) := by
    rw [wrap_u8', BitVec.toNat_setWidth]
    show _ = ((x.toNat % 256 : Nat) : Int)
    omega
  simp [convert, run_underlying hd', run_underlying hd, Conv.intToInt, U64, U8, h]
theorem conv_U64_U32 (P : Program) (w : World) (src dst : TypeId) (x : BitVec 64) (hs : (P.underlying src).isSome = true) (hd : P.underlying dst = some (.int .u32)) : (convert src dst (U64 x)).run P w = .ok (U32 (x.setWidth 32)) w := by
  obtain ⟨d, hd'⟩ := Option.isSome_iff_exists.mp hs
  have h : IntKind.u32.wrap (x.toNat : Int) = ((x.setWidth 32).toNat : Int) := by
    rw [wrap_u32', BitVec.toNat_setWidth]
    show _ = ((x.toNat % 4294967296 : Nat) : Int)
    omega
  simp [convert, run_underlying hd', run_underlying hd, Conv.intToInt, U64, U32, h]
theorem conv_int_U8 (P : Program) (w : World) (src dst : TypeId) (n : Int) (hs : (P.underlying src).isSome = true) (hd : P.underlying dst = some (.int .u8)) : (convert src dst (.int .i64 n)).run P w = .ok (U8 (BitVec.ofInt 8 n)) w := by
  obtain ⟨d, hd'⟩ := Option.isSome_iff_exists.mp hs
  simp [convert, run_underlying hd', run_underlying hd, Conv.intToInt, U8, wrap_u8]
theorem conv_word_U8 (P : Program) (w : World) (src dst : TypeId) (n : Int) (hs : (P.underlying src).isSome = true) (hd : P.underlying dst = some (.int .u8)) : (convert src dst (.int .u64 n)).run P w = .ok (U8 (BitVec.ofInt 8 n)) w := by
  obtain ⟨d, hd'⟩ := Option.isSome_iff_exists.mp hs
  simp [convert, run_underlying hd', run_underlying hd, Conv.intToInt, U8, wrap_u8]

attribute [go_sem] add_U8 add_U8_r add_U8_l sub_U8 sub_U8_r sub_U8_l mul_U8 mul_U8_r mul_U8_l and_U8 and_U8_r and_U8_l
attribute [go_sem] or_U8 or_U8_r or_U8_l xor_U8 xor_U8_r xor_U8_l andNot_U8 andNot_U8_r andNot_U8_l eql_U8 eql_U8_r eql_U8_l
attribute [go_sem] neq_U8 neq_U8_r neq_U8_l lss_U8 lss_U8_r lss_U8_l leq_U8 leq_U8_r leq_U8_l gtr_U8 gtr_U8_r gtr_U8_l
attribute [go_sem] geq_U8 geq_U8_r geq_U8_l guard_eql_U8 guard_eql_U8_l guard_neq_U8 guard_neq_U8_l shl_U8 shr_U8 not_U8 store_U8 U8.cellsm
attribute [go_sem] indexAt_U8 index_U8 conv_U8_U32 conv_U8_U64 conv_U8_int add_U32 add_U32_r add_U32_l sub_U32 sub_U32_r sub_U32_l mul_U32
attribute [go_sem] mul_U32_r mul_U32_l and_U32 and_U32_r and_U32_l or_U32 or_U32_r or_U32_l xor_U32 xor_U32_r xor_U32_l andNot_U32
attribute [go_sem] andNot_U32_r andNot_U32_l eql_U32 eql_U32_r eql_U32_l neq_U32 neq_U32_r neq_U32_l lss_U32 lss_U32_r lss_U32_l leq_U32
attribute [go_sem] leq_U32_r leq_U32_l gtr_U32 gtr_U32_r gtr_U32_l geq_U32 geq_U32_r geq_U32_l guard_eql_U32 guard_eql_U32_l guard_neq_U32 guard_neq_U32_l
attribute [go_sem] shl_U32 shr_U32 not_U32 store_U32 U32.cellsm indexAt_U32 index_U32 conv_U32_U8 conv_U32_U64 conv_U32_int add_U64 add_U64_r
attribute [go_sem] add_U64_l sub_U64 sub_U64_r sub_U64_l mul_U64 mul_U64_r mul_U64_l and_U64 and_U64_r and_U64_l or_U64 or_U64_r
attribute [go_sem] or_U64_l xor_U64 xor_U64_r xor_U64_l andNot_U64 andNot_U64_r andNot_U64_l eql_U64 eql_U64_r eql_U64_l neq_U64 neq_U64_r
attribute [go_sem] neq_U64_l lss_U64 lss_U64_r lss_U64_l leq_U64 leq_U64_r leq_U64_l gtr_U64 gtr_U64_r gtr_U64_l geq_U64 geq_U64_r
attribute [go_sem] geq_U64_l guard_eql_U64 guard_eql_U64_l guard_neq_U64 guard_neq_U64_l shl_U64 shr_U64 not_U64 store_U64 U64.cellsm indexAt_U64 index_U64
attribute [go_sem] conv_U64_U8 conv_U64_U32 conv_int_U8 conv_word_U8 fold_u8 fold_u32 fold_u64
end Go.Proofs.YtkjdejadambffaaDoor
namespace Go.Proofs.YtkjdejadambffaaDoor
open Go.RowKit
set_option linter.unusedSimpArgs false
set_option linter.unusedVariables false

/-! ### strings -/
def byt (s : ByteArray) : List (BitVec 8) := s.data.toList.map UInt8.toBitVec
def str (l : List (BitVec 8)) : ByteArray := ⟨(l.map UInt8.ofBitVec).toArray⟩
theorem byt_str (l : List (BitVec 8)) : byt (str l) = l := by
  simp only [byt, str, List.map_map]
  have : (UInt8.toBitVec ∘ UInt8.ofBitVec) = (id : BitVec 8 → BitVec 8) := rfl
  rw [this, List.map_id]
theorem str_byt (s : ByteArray) : str (byt s) = s := by
  simp only [byt, str, List.map_map]
  have : (UInt8.ofBitVec ∘ UInt8.toBitVec) = (id : UInt8 → UInt8) := rfl
  rw [this, List.map_id]
theorem size_str (l : List (BitVec 8)) : (str l).size = l.length := by
  simp only [str, ByteArray.size, List.size_toArray, List.length_map]
theorem length_byt (s : ByteArray) : (byt s).length = s.size := by
  simp only [byt, List.length_map, ByteArray.size, Array.length_toList]
theorem str_inj {a b : List (BitVec 8)} (h : str a = str b) : a = b := by rw [← byt_str a, h, byt_str]
theorem byt_inj {a b : ByteArray} (h : byt a = byt b) : a = b := by rw [← str_byt a, h, str_byt]
theorem byt_append (a b : ByteArray) : byt (a ++ b) = byt a ++ byt b := by
  simp only [byt, ByteArray.data_append, Array.toList_append, List.map_append]
theorem str_append (a b : List (BitVec 8)) : str a ++ str b = str (a ++ b) := by
  apply byt_inj
  rw [byt_append, byt_str, byt_str, byt_str]
theorem byt_extract (s : ByteArray) (a b : Nat) : byt (s.extract a b) = ((byt s).drop a).take (b - a) := by
  have e : s = ByteArray.mk s.data.toList.toArray := rfl
  conv => lhs; rw [e, ByteArray.extract_mk]
  simp only [byt, List.map_take, List.map_drop]
theorem toList_beq (a b : ByteArray) : (a.toList == b.toList) = (byt a == byt b) := by
  rw [Bool.eq_iff_iff, beq_iff_eq, beq_iff_eq]
  constructor
  · intro h
    have : a = b := by
      rw [ByteArray.toList_eq, ByteArray.toList_eq] at h
      rw [← str_byt a, ← str_byt b]
      simp only [byt, h]
    rw [this]
  · intro h
    rw [byt_inj h]
theorem size_extract' (s : ByteArray) (a b : Nat) : (s.extract a b).size = min b s.size - a := ByteArray.size_extract
/-- byte i: simp does not look behind the name -/
def gb (l : List (BitVec 8)) (i : Nat) : BitVec 8 := l.getD i 0#8
theorem getD_byt (s : ByteArray) (i : Nat) (h : i < s.size) : (s[i]'h).toBitVec = (byt s).getD i 0 := by
  have h' : i < s.data.toList.length := h
  simp only [byt, List.getD_eq_getElem?_getD, List.getElem?_map, List.getElem?_eq_getElem h', Option.map_some, Option.getD_some]
  rfl
/-- a string's byte: simp does not look behind the name -/
def strAt (t : TypeId) (s : ByteArray) (k : IntKind) (i : Int) : Sem Value := Instr.index t (.string s) (.int k i)
theorem index_strAt (t : TypeId) (s : ByteArray) (k : IntKind) (i : Int) : Instr.index t (.string s) (.int k i) = strAt t s k i := rfl
theorem run_strAt (P : Program) (w : World) (t : TypeId) (s : ByteArray) (k : IntKind) (i : Int) (h : P.underlying t = some .string) :
    (strAt t s k i).run P w =
      if 0 ≤ i ∧ i < s.size then .ok (U8 (gb (byt s) i.toNat)) w
      else (boundsPanic k i s.size .index).run P w := by
  unfold strAt
  rw [run_index_string w t s k i h]
  by_cases hi : 0 ≤ i ∧ i < s.size
  · rw [dif_pos hi, if_pos hi, show gb (byt s) i.toNat = (s[i.toNat]'(by omega)).toBitVec from (getD_byt s i.toNat (by omega)).symm]
    rfl
  · rw [dif_neg hi, if_neg hi]
attribute [go_sem] toList_beq byt_str size_str length_byt byt_append byt_extract index_strAt run_strAt

/-! ### rows of cells -/
/-- Block b is a row of cells of type t; its first n cells hold f, none of them frozen. -/
def Row (w : World) (b : Nat) (t : TypeId) (n : Nat) (f : Nat → Value) : Prop :=
  ∃ c lo hi, w.heap[b]? = some (.cells c t (lo, hi)) ∧ n ≤ c.size ∧ (∀ i, i < n → c[i]? = some (f i)) ∧ (n ≤ lo ∨ hi ≤ lo)
namespace Row
variable {w w' : World} {b : Nat} {t : TypeId} {n m : Nat} {f g : Nat → Value}
theorem cell (h : Row w b t n f) {i : Nat} (hi : i < n) : w.cell? ⟨b, i, none⟩ = some (f i) := by
  obtain ⟨c, lo, hi', hb, _, hc, _⟩ := h
  simp [World.cell?, hb, hc i hi]
theorem frozen (h : Row w b t n f) {i : Nat} (hi : i < n) : w.frozen? ⟨b, i, none⟩ = false := by
  obtain ⟨c, lo, hi', hb, _, hc, hz⟩ := h
  simp only [World.frozen?, hb]
  simp
  omega
theorem lt (h : Row w b t n f) : b < w.heap.size := by
  obtain ⟨c, lo, hi, hb, _, _⟩ := h
  exact (Array.getElem?_eq_some_iff.1 hb).1
theorem congr (h : Row w b t n f) (e : ∀ i, i < n → f i = g i) : Row w b t n g := by
  obtain ⟨c, lo, hi, hb, hn, hc, hz⟩ := h
  exact ⟨c, lo, hi, hb, hn, fun i hi => by rw [hc i hi, e i hi], hz⟩
theorem take (h : Row w b t n f) (hm : m ≤ n) : Row w b t m f := by
  obtain ⟨c, lo, hi, hb, hn, hc, hz⟩ := h
  exact ⟨c, lo, hi, hb, by omega, fun i hi => hc i (by omega), by omega⟩
theorem of_block (h : Row w b t n f) (e : w'.heap[b]? = w.heap[b]?) : Row w' b t n f := by
  obtain ⟨c, lo, hi, hb, r⟩ := h
  exact ⟨c, lo, hi, e.trans hb, r⟩
theorem set_ (h : Row w b t n f) (i : Nat) (v : Value) : Row (w.setCell ⟨b, i, none⟩ v) b t n (fun j => if j = i then v else f j) := by
  obtain ⟨c, lo, hi, hb, hn, hc, hz⟩ := h
  refine ⟨c.setIfInBounds i v, lo, hi, ?_, by simpa using hn, fun j hj => ?_, hz⟩
  · simp [World.setCell, Array.getElem?_modify, hb]
  · rw [Array.getElem?_setIfInBounds]
    by_cases e : j = i
    · subst e
      simp
      omega
    · rw [if_neg (fun h => e h.symm)]
      show c[j]? = some (if j = i then v else f j)
      rw [if_neg e]
      exact hc j hj
theorem other (h : Row w b t n f) {a : Addr} (ha : b ≠ a.block) (v : Value) : Row (w.setCell a v) b t n f := h.of_block (Below.heap_setCell w a v b ha)
theorem alloc (h : Row w b t n f) (o : Obj) : Row (w.alloc o) b t n f := h.of_block (Below.heap_alloc w o b h.lt)
theorem drew (h : Row w b t n f) : Row w.drew b t n f := h
theorem drewN (h : Row w b t n f) (k : Nat) : Row (w.drewN k) b t n f := h
theorem below {B : Nat} (h : Row w b t n f) (hb : Below B w w') (hB : b < B) : Row w' b t n f := h.of_block (hb.block b hB)
theorem grown {row : Option Nat} (h : Row w b t n f) (hg : w.grownBy w' row) (hr : some b ≠ row) : Row w' b t n f := h.of_block (hg.block b h.lt hr)
theorem ne_ {b' : Nat} {t' : TypeId} {n' : Nat} (h : Row w b t n f) (h' : Row w b' t' n' g) (hne : t ≠ t') : b ≠ b' := by
  rintro rfl
  obtain ⟨c, lo, hi, hb, _⟩ := h
  obtain ⟨c', lo', hi', hb', _⟩ := h'
  rw [hb] at hb'
  injection hb' with hb'
  injection hb' with _ ht
  exact hne ht
end Row
theorem Row.new (w : World) (c : Array Value) (t : TypeId) (f : Nat → Value) (hc : ∀ i, i < c.size → c[i]? = some (f i)) : Row (w.alloc (.cells c t)) w.heap.size t c.size f :=
  ⟨c, 0, 0, heap_alloc_new w _, Nat.le_refl _, hc, .inr (Nat.le_refl _)⟩
theorem Row.fresh {w : World} {c : Array Value} {t : TypeId} {n : Nat} {f : Nat → Value} (hn : c.size = n) (hc : ∀ i, i < n → c[i]? = some (f i)) : Row (w.alloc (.cells c t)) w.heap.size t n f := by
  subst hn
  exact Row.new w c t f hc
theorem all4 {p : Nat → Prop} (h0 : p 0) (h1 : p 1) (h2 : p 2) (h3 : p 3) : ∀ i, i < 4 → p i := by
  intro i hi
  match i, hi with
  | 0, _ => exact h0
  | 1, _ => exact h1
  | 2, _ => exact h2
  | 3, _ => exact h3
theorem Row.made (w : World) (z : Value) (n : Nat) (t : TypeId) : Row (w.alloc (.cells (madeCells #[z] n) t)) w.heap.size t n (fun _ => z) :=
  ⟨_, 0, 0, heap_alloc_new w _, by simp [size_madeCells], fun i hi => by simp [madeCells, hi, Nat.mod_one], .inr (Nat.le_refl _)⟩
/-- string(b), where b's cells are the bytes l -/
theorem run_string_of {P : Program} (w : World) (src dst e : TypeId) (b off cap n : Nat) (l : List (BitVec 8)) (hl : l.length = n) (hs : P.underlying src = some (.slice e)) (he : P.underlying e = some (.int .u8)) (hd : P.underlying dst = some .string)
    (hc : ∀ j, j < n → w.cell? ⟨b, off + j, none⟩ = some (U8 (gb l j))) :
    (convert src dst (.slice (some ⟨b, off, none⟩) n cap)).run P w = .ok (.string (str l)) w := by
  subst hl
  have h := run_convert_bytes_back (P := P) w src dst e ⟨b, off, none⟩ cap (l.map UInt8.ofBitVec) hs he hd (fun j hj => by
    have hj' : j < l.length := by simpa using hj
    rw [show (⟨b, off, none⟩ : Addr).add j = ⟨b, off + j, none⟩ from Addr.add_lit b off j, hc j hj']
    simp only [U8, gb, List.getD_eq_getElem?_getD, List.getElem?_eq_getElem hj', Option.getD_some, List.getElem_map]
    rfl)
  rw [List.length_map] at h
  exact h
end Go.Proofs.YtkjdejadambffaaDoor
namespace Go.Proofs.YtkjdejadambffaaDoor
open Go.RowKit
set_option linter.unusedSimpArgs false
set_option linter.unusedVariables false
section
variable {P : Program} {ops : Array Oper} {md : Region.Mode} {C : World → Prop}
def anyTail (P : Program) (md : Region.Mode) (ops : Array Oper) (C : World → Prop) (n : Nat) (L : Array Bool → Act → Prop) : Nat → Array Bool → Act → Prop
  | 0, listed, a => L listed a
  | f + 1, listed, a =>
    Region.ready md ops listed ≠ [] ∧ ∀ i ∈ Region.ready md ops listed, i < n ∧ qOp P ops C i (anyTail P md ops C n L f (listed.setIfInBounds i true)) a
theorem wpAny_of_tail {n g : Nat} {L : Array Bool → Act → Prop} {Q' : Exit → Act → World → Prop} (hL : ∀ listed a w, C w → L listed a → wpAny P md ops Q' g listed a w) :
    ∀ (f : Nat) (listed : Array Bool) (a : Act) (w : World), C w → anyTail P md ops C n L f listed a → wpAny P md ops Q' (f + g) listed a w
  | 0, listed, a, w, hw, h => by rw [Nat.zero_add]; exact hL _ _ _ hw h
  | f + 1, listed, a, w, hw, h => by
    rw [show f + 1 + g = (f + g) + 1 by omega]
    exact ⟨fun h0 => absurd h0 h.1, fun i hi => wpOp_of_qOp hw (fun a' w' hw' h' => wpAny_of_tail hL f _ a' w' hw' h') (h.2 i hi).2⟩
theorem anyTail_first {n i : Nat} {oi : Oper} {v : Value} {L : Array Bool → Act → Prop} (hi : ops[i]? = some oi) (hsel : ∀ (j : Nat) (o : Oper) cs b, ops[j]? = some o → o.op ≠ .select cs b)
    (hs : Region.sinkB md ops n = true) (hc : Region.chainB md ops n = true) (hn : n < ops.size) (hin : i < n)
    (hdone : ∀ listed a, L listed a → ∀ j ∈ Region.ready md ops listed, n ≤ j) :
    ∀ (f : Nat) (listed : Array Bool) (a : Act), HeadInv md ops n listed →
      (∀ j oj, ops[j]? = some oj → j ≠ i → listed.getD j true = false → (∀ e ∈ oj.after, Region.binds md e = true → e.on ≠ i) → oi.apart ops oj = true) →
      i ∈ Region.ready md ops listed → YieldsIn P ops C oi v a →
      anyTail P md ops C n L f (listed.setIfInBounds i true) (a.put oi.dst v) → anyTail P md ops C n L (f + 1) listed a := by
  intro f
  induction f with
  | zero =>
    intro listed a inv _ hr hy H
    have hun := (mem_ready.1 hr).1
    refine ⟨fun h => (by rw [h] at hr; cases hr), fun j hj => ?_⟩
    have hjn : j < n := by
      rcases Nat.lt_or_ge j n with h | h
      · exact h
      · exact absurd hj (tail_waits hs hc hn inv _ i rfl hin hun j h)
    refine ⟨hjn, ?_⟩
    by_cases hji : j = i
    · subst hji; exact hy.qOp hi H
    · have := hdone _ _ H j (ready_mono hj hji)
      omega
  | succ f ih =>
    intro listed a inv hfree hr hy H
    have hun := (mem_ready.1 hr).1
    refine ⟨fun h => (by rw [h] at hr; cases hr), fun j hj => ?_⟩
    have hjn : j < n := by
      rcases Nat.lt_or_ge j n with h | h
      · exact h
      · exact absurd hj (tail_waits hs hc hn inv _ i rfl hin hun j h)
    refine ⟨hjn, ?_⟩
    by_cases hji : j = i
    · subst hji; exact hy.qOp hi H
    · have h1 := (H.2 j (ready_mono hj hji)).2
      obtain ⟨hjun, oj, hoj, hall⟩ := mem_ready.1 hj
      have hnot : ∀ e ∈ oj.after, Region.binds md e = true → e.on ≠ i := fun e he hb heq => by
        have h1 := hall e he hb
        rw [heq, getD_both hun] at h1
        cases h1
      have h2 := qOp_put hoj (hfree j oj hoj hji hjun hnot) (fun cs b => hsel i oi cs b hi) (fun cs b => hsel j oj cs b hoj) hy h1
      have hfree' : ∀ k ok, ops[k]? = some ok → k ≠ i → (listed.setIfInBounds j true).getD k true = false →
          (∀ e ∈ ok.after, Region.binds md e = true → e.on ≠ i) → oi.apart ops ok = true := fun k ok hk hki hun hno => by
        refine hfree k ok hk hki ?_ hno
        by_cases hjk : j = k
        · subst hjk; exact hjun
        · rw [getD_set_ne true hjk] at hun; exact hun
      refine qOp_mono (fun a' h3 => ih (listed.setIfInBounds j true) a' (inv.set hj hjn) hfree' (ready_mono hr (Ne.symm hji)) h3.1 ?_) h2
      rw [Array.setIfInBounds_comm _ _ hji]
      exact h3.2
theorem anyTail_lex {n g : Nat} {Lq : Act → Prop} (hsel : Region.noSelect ops = true) (hs : Region.sinkB md ops n = true) (hc : Region.chainB md ops n = true) (hn : n < ops.size) :
    ∀ (l : List Oper) (k : Nat) (listed : Array Bool) (a : Act), (∀ j, j < l.length → l[j]? = ops[k + j]?) → k + l.length = n → HeadInv md ops n listed →
    Region.lexHead md ops g l.length k listed = true → wpQuiet P ops C Lq l a →
    anyTail P md ops C n (fun listed' a' => Region.seqB md ops g n listed' = true ∧ Lq a') l.length listed a
  | [], k, listed, a, _, hk, _, hB, h => by
    have : k = n := by simpa using hk
    subst this
    exact ⟨by simpa [Region.lexHead] using hB, h⟩
  | o :: l, k, listed, a, hl, hk, inv, hB, h => by
    have h0 : ops[k]? = some o := by simpa using (hl 0 (by simp)).symm
    simp only [List.length_cons, Region.lexHead, Bool.and_eq_true] at hB
    obtain ⟨⟨hr, hf⟩, hB'⟩ := hB
    have hkn : k < n := by simp only [List.length_cons] at hk; omega
    have hr' : k ∈ Region.ready md ops listed := by simpa using hr
    have hst : qOp P ops C k (wpQuiet P ops C Lq l) a := by unfold qOp; simp only [h0]; exact h
    obtain ⟨v, hy, hK⟩ := yieldsIn_of_qOp h0 hst
    exact anyTail_first h0 (Region.noSelect_spec hsel) hs hc hn hkn (fun listed' a' hL => seqB_ready hL.1) l.length listed a inv (Region.free_spec h0 hf) hr' hy
      (anyTail_lex hsel hs hc hn l (k + 1) _ _ (fun j hj => by have := hl (j + 1) (by simp; omega); simpa [Nat.add_assoc, Nat.add_comm 1 j] using this) (by simp only [List.length_cons] at hk; omega) (inv.set hr' hkn) hB' hK)
/-- n quiet operations, then a tail in one order: the tail in every world of the class. -/
theorem wp_region_tail {id : Nat} {Q : Exit → Act → World → Prop} {a : Act} {w : World} {l : List Oper} (C : World → Prop) (n : Nat) (hm : P.follows .mixedOrders = true) (hB : Region.lexTailB .any l.toArray n = true)
    (hC : C w.drew) (h : wpQuiet P l.toArray C (fun a' => ∀ w', C w' → wpList P l.toArray Q (l.drop n) a' w') (l.take n) a) : (Code.region id l.toArray true).wp P Q a w := by
  simp only [Region.lexTailB, Bool.and_eq_true, decide_eq_true_eq] at hB
  obtain ⟨⟨⟨⟨hsel, hn⟩, hs⟩, hc⟩, hlex⟩ := hB
  have hn' : n < l.length := by simpa using hn
  have htl : (l.take n).length = n := by simp; omega
  have hdl : (l.drop n).length = l.toArray.size - n := by simp
  have inv0 : HeadInv .any l.toArray n (Array.replicate l.toArray.size false) :=
    ⟨by simp, fun j oj _ hl => (by rw [getD_replicate_false] at hl; cases hl), fun t _ ht => getD_in (by simpa using ht) (getD_replicate_false _ _)⟩
  have H := anyTail_lex (md := .any) (g := l.toArray.size - n) hsel hs hc hn (l.take n) 0 _ a (fun j hj => by
    have hj' : j < n := by rw [htl] at hj; exact hj
    simp [hj']) (by simpa using htl) inv0 (by rw [htl]; exact hlex) h
  refine wp_region_any hm ?_
  have := wpAny_of_tail (Q' := Q) (g := l.toArray.size - n) (fun listed a' w' hw' hL => by
    have := wpAny_of_seq (md := .any) (Q' := Q) (l.drop n) n listed a' w' (fun j => by simp [List.getElem?_drop]) (by rw [hdl]; exact hL.1) (hL.2 w' hw')
    rwa [hdl] at this) _ _ _ _ hC H
  rw [htl, show n + (l.toArray.size - n) = l.toArray.size by omega] at this
  exact this
end
/-- the same at the class 'this world after some draws' -/
theorem wp_region_tailD {P : Program} {id : Nat} {Q : Exit → Act → World → Prop} {a : Act} {w : World} {l : List Oper} (n : Nat) (hm : P.follows .mixedOrders = true) (hB : Region.lexTailB .any l.toArray n = true)
    (h : wpQuiet P l.toArray (fun w' => ∃ n, w' = w.drewN n) (fun a' => ∀ w', (∃ n, w' = w.drewN n) → wpList P l.toArray Q (l.drop n) a' w') (l.take n) a) : (Code.region id l.toArray true).wp P Q a w :=
  wp_region_tail _ n hm hB ⟨1, rfl⟩ h
/-! ### later worlds: all blocks below B as they were -/
structure Later (B : Nat) (w : World) where
  val : World
  ok : Below B w val
def laterC (B : Nat) (w : World) : World → Prop := fun w' => ∃ x : Later B w, w' = x.val
theorem laterC.mk {B : Nat} {w w' : World} (h : Below B w w') : laterC B w w' := ⟨⟨w', h⟩, rfl⟩
theorem Later.cell {B : Nat} {w : World} {p : Addr} {v : Value} (hp : p.block < B) (h : w.cell? p = some v) : ∀ x : Later B w, x.val.cell? p = some v := fun x => (x.ok.cell hp).trans h
theorem wp_region_tailL {P : Program} {id : Nat} {Q : Exit → Act → World → Prop} {a : Act} {w : World} {l : List Oper} (B : Nat) (n : Nat) (hm : P.follows .mixedOrders = true) (hB : Region.lexTailB .any l.toArray n = true)
    (h : wpQuiet P l.toArray (fun w' => ∃ x : Later B w, w' = x.val) (fun a' => ∀ w', (∃ x : Later B w, w' = x.val) → wpList P l.toArray Q (l.drop n) a' w') (l.take n) a) : (Code.region id l.toArray true).wp P Q a w :=
  wp_region_tail _ n hm hB ⟨⟨w.drew, ⟨rfl, rfl, rfl, Nat.le_refl _, fun _ _ => rfl⟩⟩, rfl⟩ h
theorem wp_region_quietL {P : Program} {id : Nat} {Q : Exit → Act → World → Prop} {a : Act} {w : World} {l : List Oper} (B : Nat) (hm : P.follows .mixedOrders = true) (hB : Region.lexB .any l.toArray = true)
    (h : wpQuiet P l.toArray (fun w' => ∃ x : Later B w, w' = x.val) (fun a' => ∀ w', (∃ x : Later B w, w' = x.val) → Q .normal a' w') l a) : (Code.region id l.toArray true).wp P Q a w :=
  wp_region_quiet (C := fun w' => ∃ x : Later B w, w' = x.val) hm hB ⟨⟨w.drew, ⟨rfl, rfl, rfl, Nat.le_refl _, fun _ _ => rfl⟩⟩, rfl⟩ (by simpa using h)
theorem calls_later {P : Program} {f : FuncId} {args : Array Value} {B : Nat} {w : World} {v : Value} (x : Later B w) (hB : B ≤ w.heap.size)
    (h : Calls P f args x.val fun e w' => e = .returned v ∧ Below x.val.heap.size x.val w') : Calls P f args x.val fun e w'' => e = .returned v ∧ laterC B w w'' :=
  h.mono fun _ _ ⟨he, hb⟩ => ⟨he, ⟨⟨_, x.ok.trans (hb.mono (Nat.le_trans hB x.ok.size))⟩, rfl⟩⟩
theorem calls_drewN {P : Program} {f : FuncId} {args : Array Value} {w : World} {R : Value → Prop}
    (h : Calls P f args w fun e w' => ∃ v, e = .returned v ∧ R v ∧ ∃ k, w' = w.drewN k) : Calls P f args w fun e w' => ∃ v, e = .returned v ∧ R v ∧ Below w.heap.size w w' :=
  h.mono fun _ _ ⟨v, he, hr, k, hk⟩ => ⟨v, he, hr, by subst hk; exact ⟨rfl, rfl, rfl, Nat.le_refl _, fun _ _ => rfl⟩⟩
theorem below_drewN {B : Nat} {a w : World} (h : Below B a w) (n : Nat) : Below B a (w.drewN n) := ⟨h.os, h.tape, h.output, h.size, h.block⟩
end Go.Proofs.YtkjdejadambffaaDoor
namespace Go.Proofs.YtkjdejadambffaaDoor
open Go.RowKit
set_option linter.unusedSimpArgs false
set_option linter.unusedVariables false
/-- an array's m values: simp does not look behind the name -/
def arr (m : Nat) (f : Nat → Value) : Array Value := ((List.range m).map f).toArray
theorem size_arr (m : Nat) (f : Nat → Value) : (arr m f).size = m := by simp [arr]
theorem arr_at (m : Nat) (f : Nat → Value) (i : Nat) (h : i < m) : (arr m f)[i]? = some (f i) := by simp [arr, h]
theorem arr_congr {m : Nat} {f g : Nat → Value} (h : ∀ i, i < m → f i = g i) : arr m f = arr m g := by
  unfold arr
  congr 1
  exact List.map_congr_left (fun i hi => h i (List.mem_range.1 hi))
theorem Row.of_arr (w : World) (t : TypeId) (m : Nat) (f : Nat → Value) : Row (w.alloc (.cells (arr m f) t)) w.heap.size t m f :=
  Row.fresh (size_arr m f) (fun i hi => arr_at m f i hi)
section
variable {P : Program}
def isAggD : TypeDesc → Bool
  | .struct _ | .array _ _ => true
  | _ => false
theorem run_isAgg (w : World) (ty : TypeId) (hu : (P.underlying ty).map isAggD = some true) : (isAgg ty).run P w = .ok true w := by
  obtain ⟨d, h1, h2⟩ := Option.map_eq_some_iff.1 hu
  unfold isAgg
  rw [Sem.run_bind, run_underlying h1 w]
  cases d <;> simp_all [isAggD]
theorem run_loadVar_at (w : World) (ty : TypeId) (g off m : Nat) (f : Nat → Value) (hu : (P.underlying ty).map isAggD = some true) (hi : (P.info? ty).map (·.size) = some m)
    (hc : ∀ j, j < m → w.cell? ⟨g, off + j, none⟩ = some (f j)) : (loadVar ty ⟨g, off, none⟩).run P w = .ok (.agg (arr m f)) w := by
  have hl := run_loadCells (P := P) w ⟨g, off, none⟩ m f (fun j hj => by rw [Addr.add_lit]; exact hc j hj)
  cases hq : P.info? ty with
  | none => simp [hq] at hi
  | some i =>
    have hs : i.size = m := by simpa [hq] using hi
    have hsz : (sizeOf ty).run P w = .ok m w := by simp [sizeOf, typeInfo, hq, hs]
    have hag := run_isAgg (P := P) w ty hu
    simp [loadVar, Sem.run_bind, hag, hsz, hl, arr]
theorem wp_load_arr {o : Oper} {a : Act} {w : World} {K : Act → World → Prop} {Q : Exit → Act → World → Prop} (ty : TypeId) (x : Operand) (ho : o.op = .load ty x)
    (g off m : Nat) (hx : a.eval x = .pointer (some ⟨g, off, none⟩)) (f : Nat → Value) (hu : (P.underlying ty).map isAggD = some true) (hi : (P.info? ty).map (·.size) = some m)
    (hc : ∀ j, j < m → w.cell? ⟨g, off + j, none⟩ = some (f j)) (h : K (a.put o.dst (.agg (arr m f))) w) : o.wp P a w K Q := by
  unfold Oper.wp execOp
  simp only [ho, hx, Instr.loadAt, Instr.sureAddr, Sem.run_bind, Sem.run_pure, Result.andThen_ok, run_loadVar_at w ty g off m f hu hi hc]
  exact h
theorem wpList_load_arr {ops : Array Oper} {rest : List Oper} {o : Oper} {a : Act} {w : World} {Q : Exit → Act → World → Prop} (hgd : o.guard = none) (ty : TypeId) (x : Operand) (ho : o.op = .load ty x)
    (g off m : Nat) (hx : a.eval x = .pointer (some ⟨g, off, none⟩)) (f : Nat → Value) (hu : (P.underlying ty).map isAggD = some true) (hi : (P.info? ty).map (·.size) = some m)
    (hc : ∀ j, j < m → w.cell? ⟨g, off + j, none⟩ = some (f j)) (h : wpList P ops Q rest (a.put o.dst (.agg (arr m f))) w) : wpList P ops Q (o :: rest) a w :=
  wpList_plain hgd fun _ hK => wp_load_arr ty x ho g off m hx f hu hi hc (hK _ _ h)
theorem setCells_other (b : Nat) : ∀ (vs : List Value) (o : Nat) (w : World) (k : Nat), k ≠ b → (w.setCells b o vs).heap[k]? = w.heap[k]?
  | [], _, _, _, _ => rfl
  | v :: r, o, w, k, h => by rw [World.setCells, setCells_other b r (o + 1) _ k h, Below.heap_setCell _ _ _ _ h]
theorem setCells_rest (b : Nat) : ∀ (vs : List Value) (o : Nat) (w : World), (w.setCells b o vs).os = w.os ∧ (w.setCells b o vs).tape = w.tape ∧ (w.setCells b o vs).output = w.output ∧ (w.setCells b o vs).heap.size = w.heap.size
  | [], _, _ => ⟨rfl, rfl, rfl, rfl⟩
  | v :: r, o, w => by
    obtain ⟨h1, h2, h3, h4⟩ := setCells_rest b r (o + 1) (w.setCell ⟨b, o, none⟩ v)
    exact ⟨h1, h2, h3, by rw [World.setCells, h4]; simp [World.setCell]⟩
theorem setCells_row (t : TypeId) (b n : Nat) : ∀ (vs : List Value) (o : Nat) (w : World) (f : Nat → Value), Row w b t n f → Row (w.setCells b o vs) b t n (fun j => if o ≤ j ∧ j < o + vs.length then vs.getD (j - o) undef else f j)
  | [], o, w, f, h => h.congr (fun i _ => by rw [if_neg (by simp only [List.length_nil]; omega)])
  | v :: r, o, w, f, h => by
    refine (setCells_row t b n r (o + 1) _ _ (h.set_ o v)).congr (fun i hi => ?_)
    by_cases h1 : o + 1 ≤ i ∧ i < o + 1 + r.length
    · rw [if_pos h1, if_pos (by simp; omega), show i - o = i - (o + 1) + 1 from by omega]
      rfl
    · rw [if_neg h1]
      by_cases h2 : i = o
      · subst h2
        rw [if_pos rfl, if_pos (by simp)]
        simp
      · rw [if_neg h2, if_neg (by simp; omega)]
theorem run_storeVar_at (w : World) (ty t : TypeId) (g off m n : Nat) (h f : Nat → Value) (hi : (P.info? ty).map (·.size) = some m) (hone : ∀ j, j < m → (h j).oneCell' = true) (hr : Row w g t n f) (hn : off + m ≤ n) :
    (storeVar ty ⟨g, off, none⟩ (.agg (arr m h))).run P w = .ok () (w.setCells g off ((List.range m).map h)) := by
  have hst := run_storeCells_cells (P := P) g off ((List.range m).map h) 0 w
    (fun j hj => by simp at hj; rw [Nat.add_zero, hr.cell (by omega)]; rfl)
    (fun j hj => by simp at hj; rw [Nat.add_zero, hr.frozen (by omega)])
    (fun v hv => by
      obtain ⟨j, hj, rfl⟩ := List.mem_map.1 hv
      exact hone j (List.mem_range.1 hj))
  cases hq : P.info? ty with
  | none => simp [hq] at hi
  | some i =>
    have hs : i.size = m := by simpa [hq] using hi
    have hc : (Value.agg (arr m h)).cells = arr m h := rfl
    have hl : (arr m h).toList = (List.range m).map h := rfl
    have hsz : (sizeOf ty).run P w = .ok m w := by simp [sizeOf, typeInfo, hq, hs]
    simp only [Nat.add_zero] at hst
    simp [storeVar, Sem.run_bind, hsz, hc, size_arr, hl, hst]
theorem wp_store_arr {o : Oper} {a : Act} {w : World} {K : Act → World → Prop} {Q : Exit → Act → World → Prop} (ty : TypeId) (p x : Operand) (ho : o.op = .store ty p x)
    (g off m : Nat) (hp : a.eval p = .pointer (some ⟨g, off, none⟩)) (h : Nat → Value) (hx : a.eval x = .agg (arr m h)) (hi : (P.info? ty).map (·.size) = some m)
    (hone : ∀ j, j < m → (h j).oneCell' = true) (t : TypeId) (n : Nat) (f : Nat → Value) (hr : Row w g t n f) (hn : off + m ≤ n)
    (hK : ∀ w', Row w' g t n (fun j => if off ≤ j ∧ j < off + m then h (j - off) else f j) → w.grownBy w' (some g) → w'.heap.size = w.heap.size → K (a.put o.dst undef) w') : o.wp P a w K Q := by
  unfold Oper.wp execOp
  simp only [ho, hp, hx, Instr.storeAt, Instr.sureAddr, Sem.run_bind, Sem.run_pure, Result.andThen_ok, run_storeVar_at w ty t g off m n h f hi hone hr hn]
  obtain ⟨h1, h2, h3, h4⟩ := setCells_rest g ((List.range m).map h) off w
  refine hK _ ((setCells_row t g n _ off w f hr).congr (fun i _ => ?_)) ⟨h1, h2, h3, by omega, fun k hk hne => setCells_other g _ off w k (fun e => hne (by rw [e]))⟩ h4
  by_cases e : off ≤ i ∧ i < off + m
  · rw [if_pos (by simpa using e), if_pos e]
    simp [show i - off < m from by omega]
  · rw [if_neg (by simpa using e), if_neg e]
theorem wpList_store_arr {ops : Array Oper} {rest : List Oper} {o : Oper} {a : Act} {w : World} {Q : Exit → Act → World → Prop} (hgd : o.guard = none) (hd : o.dst = none) (ty : TypeId) (p x : Operand) (ho : o.op = .store ty p x)
    (g off m : Nat) (hp : a.eval p = .pointer (some ⟨g, off, none⟩)) (h : Nat → Value) (hx : a.eval x = .agg (arr m h)) (hi : (P.info? ty).map (·.size) = some m)
    (hone : ∀ j, j < m → (h j).oneCell' = true) (t : TypeId) (n : Nat) (f : Nat → Value) (hr : Row w g t n f) (hn : off + m ≤ n)
    (hK : ∀ w', Row w' g t n (fun j => if off ≤ j ∧ j < off + m then h (j - off) else f j) → w.grownBy w' (some g) → w'.heap.size = w.heap.size → wpList P ops Q rest a w') : wpList P ops Q (o :: rest) a w :=
  wpList_plain hgd fun _ hK' => wp_store_arr ty p x ho g off m hp h hx hi hone t n f hr hn (fun w' a1 a2 a3 => hK' _ _ (by rw [hd]; exact hK w' a1 a2 a3))
/-- a result that lies in memory, an array -/
theorem results_arr {fn : Func} {p : Tmp} {ty : TypeId} (h : fn.results = #[.cell p ty]) (tmps : Array Value) (w : World) (g m : Nat) (f : Nat → Value)
    (hp : tmps.getD p undef = .pointer (some ⟨g, 0, none⟩)) (hu : (P.underlying ty).map isAggD = some true) (hi : (P.info? ty).map (·.size) = some m)
    (hc : ∀ j, j < m → w.cell? ⟨g, j, none⟩ = some (f j)) : (results fn tmps).run P w = .ok (.agg (arr m f)) w := by
  have hp' : tmps[p]?.getD undef = .pointer (some ⟨g, 0, none⟩) := by simpa using hp
  simp [results, h, hp', asAddr, run_loadVar_at w ty g 0 m f hu hi (fun j hj => by rw [Nat.zero_add]; exact hc j hj)]
theorem wpList_build {ops : Array Oper} {rest : List Oper} {o : Oper} {a : Act} {w : World} {Q : Exit → Act → World → Prop} (hgd : o.guard = none) (t : TypeId) (k : Nat) (x : Operand) (ho : o.op = .build t #[(k, x)])
    (vx v : Value) (hx : a.eval x = vx) (hb : ∀ w, (Instr.build t #[(k, vx)]).run P w = .ok v w) (h : wpList P ops Q rest (a.put o.dst v) w) : wpList P ops Q (o :: rest) a w :=
  wpList_plain hgd fun _ hK => by
    unfold Oper.wp execOp
    simp only [ho, List.map_toArray, List.map_cons, List.map_nil, hx, Sem.run_bind, hb, Result.andThen_ok, Sem.run_pure]
    exact hK _ _ h
/-- one cell of a row stored, the world behind it by what is known of it alone -/
theorem wpList_store_cell {ops : Array Oper} {rest : List Oper} {o : Oper} {a : Act} {w : World} {Q : Exit → Act → World → Prop} (hgd : o.guard = none) (hd : o.dst = none) (ty : TypeId) (p x : Operand) (ho : o.op = .store ty p x)
    (g i : Nat) (hp : a.eval p = .pointer (some ⟨g, i, none⟩)) (v : Value) (hx : a.eval x = v) (hone : v.oneCell' = true) (hcl : v.cells = #[v]) (hty : (P.info? ty).map (·.size) = some 1)
    (t : TypeId) (n : Nat) (f : Nat → Value) (hr : Row w g t n f) (hi : i < n)
    (hK : ∀ w', Row w' g t n (fun j => if j = i then v else f j) → w.grownBy w' (some g) → w'.heap.size = w.heap.size → wpList P ops Q rest a w') : wpList P ops Q (o :: rest) a w :=
  wpList_plain hgd fun _ hK' => by
    cases hq : P.info? ty with
    | none => simp [hq] at hty
    | some j =>
      have hs : j.size = 1 := by simpa [hq] using hty
      have hsz : (sizeOf ty).run P w = .ok 1 w := by simp [sizeOf, typeInfo, hq, hs]
      have hst : (store ⟨g, i, none⟩ v).run P w = .ok () (w.setCell ⟨g, i, none⟩ v) := by
        rw [run_store P w ⟨g, i, none⟩ v _ hone, hr.cell hi]
        simp [hr.frozen hi]
      have hsc : (storeCells ⟨g, i, none⟩ [v]).run P w = .ok () (w.setCell ⟨g, i, none⟩ v) := by
        simp only [storeCells, Addr.add_zero', Sem.run_bind, hst, Result.andThen_ok, Sem.run_pure]
      have hsv : (storeVar ty ⟨g, i, none⟩ v).run P w = .ok () (w.setCell ⟨g, i, none⟩ v) := by
        simp [storeVar, Sem.run_bind, hsz, hcl, hsc]
      unfold Oper.wp execOp
      simp only [ho, hp, hx, Instr.storeAt, Instr.sureAddr, Sem.run_bind, Sem.run_pure, Result.andThen_ok, hsv]
      exact hK' _ _ (by rw [hd]; exact hK _ (hr.set_ i v) ⟨rfl, rfl, rfl, by simp [World.setCell], fun k _ hne => Below.heap_setCell w _ v k (fun e => hne (by rw [e]))⟩ (by simp [World.setCell]))
end
end Go.Proofs.YtkjdejadambffaaDoor
