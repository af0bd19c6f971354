/-
  Machine words as values: U8, U32, U64 carry a bit vector; the walk's rules on them. No conditions.
-/
import Derived.WalkKit
import Derived.WalkLawsBesides
import Derived.WalkSpells
import Derived.Lib.Hide
namespace Go.Proofs.YtdmbfimjbmfbaaaGreatDoor
open Go.RowKit
set_option linter.unusedSimpArgs false
set_option linter.unusedVariables false

/-- a word as an index: simp does not look behind the name -/
def idx {n : Nat} (x : BitVec n) : Nat := x.toNat
theorem idx_lt {n : Nat} (x : BitVec n) : idx x < 2 ^ n := x.isLt

/-- a word of 8 bits, as a value -/
def U8 (x : BitVec 8) : Value := .int .u8 (x.toNat : Int)
theorem U8.out (x : BitVec 8) : U8 x = .int .u8 (x.toNat : Int) := rfl
theorem U8_raw (b : Int) (hb : 0 ≤ b ∧ b < 256) : Value.int .u8 b = U8 (BitVec.ofNat 8 b.toNat) := by
  have h : (b.toNat % 256 : Nat) = b.toNat := Nat.mod_eq_of_lt (by omega)
  have e : ((BitVec.ofNat 8 b.toNat).toNat : Int) = b := by
    rw [BitVec.toNat_ofNat]
    show ((b.toNat % 256 : Nat) : Int) = b
    rw [h]; omega
  simp only [U8, e]
theorem U8.inj {x y : BitVec 8} (h : U8 x = U8 y) : x = y := by
  simp only [U8, Value.int.injEq, true_and] at h
  exact BitVec.eq_of_toNat_eq (by omega)
theorem wrap_u8 (n : Int) : IntKind.u8.wrap n = ((BitVec.ofInt 8 n).toNat : Int) := by
  rw [BitVec.toNat_ofInt]
  simp [IntKind.wrap, IntKind.bits, IntKind.signed]
  omega
theorem ofInt_u8 (x : BitVec 8) : BitVec.ofInt 8 (x.toNat : Int) = x := by simp
theorem U8.oneCell (x : BitVec 8) : (U8 x).oneCell' = true := rfl
theorem U8.cells (x : BitVec 8) : (U8 x).cells = #[U8 x] := rfl
theorem U8.cellsm (x : BitVec 8) : Value.cells.match_1 (fun _ => Array Value) (U8 x) (fun cs => cs) (fun v => #[v]) = #[U8 x] := rfl

/-- a word of 32 bits, as a value -/
def U32 (x : BitVec 32) : Value := .int .u32 (x.toNat : Int)
theorem U32.out (x : BitVec 32) : U32 x = .int .u32 (x.toNat : Int) := rfl
theorem U32_raw (b : Int) (hb : 0 ≤ b ∧ b < 4294967296) : Value.int .u32 b = U32 (BitVec.ofNat 32 b.toNat) := by
  have h : (b.toNat % 4294967296 : Nat) = b.toNat := Nat.mod_eq_of_lt (by omega)
  have e : ((BitVec.ofNat 32 b.toNat).toNat : Int) = b := by
    rw [BitVec.toNat_ofNat]
    show ((b.toNat % 4294967296 : Nat) : Int) = b
    rw [h]; omega
  simp only [U32, e]
theorem U32.inj {x y : BitVec 32} (h : U32 x = U32 y) : x = y := by
  simp only [U32, Value.int.injEq, true_and] at h
  exact BitVec.eq_of_toNat_eq (by omega)
theorem wrap_u32 (n : Int) : IntKind.u32.wrap n = ((BitVec.ofInt 32 n).toNat : Int) := by
  rw [BitVec.toNat_ofInt]
  simp [IntKind.wrap, IntKind.bits, IntKind.signed]
  omega
theorem ofInt_u32 (x : BitVec 32) : BitVec.ofInt 32 (x.toNat : Int) = x := by simp
theorem U32.oneCell (x : BitVec 32) : (U32 x).oneCell' = true := rfl
theorem U32.cells (x : BitVec 32) : (U32 x).cells = #[U32 x] := rfl
theorem U32.cellsm (x : BitVec 32) : Value.cells.match_1 (fun _ => Array Value) (U32 x) (fun cs => cs) (fun v => #[v]) = #[U32 x] := rfl

/-- a word of 64 bits, as a value -/
def U64 (x : BitVec 64) : Value := .int .u64 (x.toNat : Int)
theorem U64.out (x : BitVec 64) : U64 x = .int .u64 (x.toNat : Int) := rfl
theorem U64_raw (b : Int) (hb : 0 ≤ b ∧ b < 18446744073709551616) : Value.int .u64 b = U64 (BitVec.ofNat 64 b.toNat) := by
  have h : (b.toNat % 18446744073709551616 : Nat) = b.toNat := Nat.mod_eq_of_lt (by omega)
  have e : ((BitVec.ofNat 64 b.toNat).toNat : Int) = b := by
    rw [BitVec.toNat_ofNat]
    show ((b.toNat % 18446744073709551616 : Nat) : Int) = b
    rw [h]; omega
  simp only [U64, e]
theorem U64.inj {x y : BitVec 64} (h : U64 x = U64 y) : x = y := by
  simp only [U64, Value.int.injEq, true_and] at h
  exact BitVec.eq_of_toNat_eq (by omega)
theorem wrap_u64 (n : Int) : IntKind.u64.wrap n = ((BitVec.ofInt 64 n).toNat : Int) := by
  rw [BitVec.toNat_ofInt]
  simp [IntKind.wrap, IntKind.bits, IntKind.signed]
  omega
theorem ofInt_u64 (x : BitVec 64) : BitVec.ofInt 64 (x.toNat : Int) = x := by simp
theorem U64.oneCell (x : BitVec 64) : (U64 x).oneCell' = true := rfl
theorem U64.cells (x : BitVec 64) : (U64 x).cells = #[U64 x] := rfl
theorem U64.cellsm (x : BitVec 64) : Value.cells.match_1 (fun _ => Array Value) (U64 x) (fun cs => cs) (fun v => #[v]) = #[U64 x] := rfl

theorem ofInt_sub' (w : Nat) (a b : Int) : BitVec.ofInt w (a - b) = BitVec.ofInt w a - BitVec.ofInt w b := by
  rw [Int.sub_eq_add_neg, BitVec.ofInt_add, BitVec.ofInt_neg, ← BitVec.sub_eq_add_neg]
theorem wrap_u8' (n : Int) : IntKind.u8.wrap n = n % 256 := by simp [IntKind.wrap, IntKind.bits, IntKind.signed]
theorem wrap_u32' (n : Int) : IntKind.u32.wrap n = n % 4294967296 := by simp [IntKind.wrap, IntKind.bits, IntKind.signed]
theorem wrap_u64' (n : Int) : IntKind.u64.wrap n = n % 18446744073709551616 := by simp [IntKind.wrap, IntKind.bits, IntKind.signed]

theorem fold_u8 (n : Int) : Value.int .u8 (n % 256) = U8 (BitVec.ofInt 8 n) := by rw [← wrap_u8', wrap_u8]; rfl
theorem fold_u32 (n : Int) : Value.int .u32 (n % 4294967296) = U32 (BitVec.ofInt 32 n) := by rw [← wrap_u32', wrap_u32]; rfl
theorem fold_u64 (n : Int) : Value.int .u64 (n % 18446744073709551616) = U64 (BitVec.ofInt 64 n) := by rw [← wrap_u64', wrap_u64]; rfl
theorem add_U8 (t : TypeId) (x y : BitVec 8) : binOp .add t (U8 x) (U8 y) = pure (U8 (x + y)) := by
  simp only [U8, binOp_add, Op.intArith, wrap_u8, BitVec.ofInt_add, ofInt_u8]
theorem add_U8_r (t : TypeId) (x : BitVec 8) (b : Int) : binOp .add t (U8 x) (.int .u8 b) = pure (U8 (x + BitVec.ofInt 8 b)) := by
  simp only [U8, binOp_add, Op.intArith, wrap_u8, BitVec.ofInt_add, ofInt_u8]
theorem add_U8_l (t : TypeId) (a : Int) (y : BitVec 8) : binOp .add t (.int .u8 a) (U8 y) = pure (U8 (BitVec.ofInt 8 a + y)) := by
  simp only [U8, binOp_add, Op.intArith, wrap_u8, BitVec.ofInt_add, ofInt_u8]
theorem sub_U8 (t : TypeId) (x y : BitVec 8) : binOp .sub t (U8 x) (U8 y) = pure (U8 (x - y)) := by
  simp only [U8, binOp_sub, Op.intArith, wrap_u8, ofInt_sub', ofInt_u8]
theorem sub_U8_r (t : TypeId) (x : BitVec 8) (b : Int) : binOp .sub t (U8 x) (.int .u8 b) = pure (U8 (x - BitVec.ofInt 8 b)) := by
  simp only [U8, binOp_sub, Op.intArith, wrap_u8, ofInt_sub', ofInt_u8]
theorem sub_U8_l (t : TypeId) (a : Int) (y : BitVec 8) : binOp .sub t (.int .u8 a) (U8 y) = pure (U8 (BitVec.ofInt 8 a - y)) := by
  simp only [U8, binOp_sub, Op.intArith, wrap_u8, ofInt_sub', ofInt_u8]
theorem mul_U8 (t : TypeId) (x y : BitVec 8) : binOp .mul t (U8 x) (U8 y) = pure (U8 (x * y)) := by
  simp only [U8, binOp_mul, Op.intArith, wrap_u8, BitVec.ofInt_mul, ofInt_u8]
theorem mul_U8_r (t : TypeId) (x : BitVec 8) (b : Int) : binOp .mul t (U8 x) (.int .u8 b) = pure (U8 (x * BitVec.ofInt 8 b)) := by
  simp only [U8, binOp_mul, Op.intArith, wrap_u8, BitVec.ofInt_mul, ofInt_u8]
theorem mul_U8_l (t : TypeId) (a : Int) (y : BitVec 8) : binOp .mul t (.int .u8 a) (U8 y) = pure (U8 (BitVec.ofInt 8 a * y)) := by
  simp only [U8, binOp_mul, Op.intArith, wrap_u8, BitVec.ofInt_mul, ofInt_u8]
theorem and_U8 (t : TypeId) (x y : BitVec 8) : binOp .and t (U8 x) (U8 y) = pure (U8 (x &&& y)) := by
  simp only [U8, binOp_and, Op.intBits, IntKind.bits, ofInt_u8, wrap_u8]; rfl
theorem and_U8_r (t : TypeId) (x : BitVec 8) (b : Int) : binOp .and t (U8 x) (.int .u8 b) = pure (U8 (x &&& BitVec.ofInt 8 b)) := by
  simp only [U8, binOp_and, Op.intBits, IntKind.bits, ofInt_u8, wrap_u8]; rfl
theorem and_U8_l (t : TypeId) (a : Int) (y : BitVec 8) : binOp .and t (.int .u8 a) (U8 y) = pure (U8 (BitVec.ofInt 8 a &&& y)) := by
  simp only [U8, binOp_and, Op.intBits, IntKind.bits, ofInt_u8, wrap_u8]; rfl
theorem or_U8 (t : TypeId) (x y : BitVec 8) : binOp .or t (U8 x) (U8 y) = pure (U8 (x ||| y)) := by
  simp only [U8, binOp_or, Op.intBits, IntKind.bits, ofInt_u8, wrap_u8]; rfl
theorem or_U8_r (t : TypeId) (x : BitVec 8) (b : Int) : binOp .or t (U8 x) (.int .u8 b) = pure (U8 (x ||| BitVec.ofInt 8 b)) := by
  simp only [U8, binOp_or, Op.intBits, IntKind.bits, ofInt_u8, wrap_u8]; rfl
theorem or_U8_l (t : TypeId) (a : Int) (y : BitVec 8) : binOp .or t (.int .u8 a) (U8 y) = pure (U8 (BitVec.ofInt 8 a ||| y)) := by
  simp only [U8, binOp_or, Op.intBits, IntKind.bits, ofInt_u8, wrap_u8]; rfl
theorem xor_U8 (t : TypeId) (x y : BitVec 8) : binOp .xor t (U8 x) (U8 y) = pure (U8 (x ^^^ y)) := by
  simp only [U8, binOp_xor, Op.intBits, IntKind.bits, ofInt_u8, wrap_u8]; rfl
theorem xor_U8_r (t : TypeId) (x : BitVec 8) (b : Int) : binOp .xor t (U8 x) (.int .u8 b) = pure (U8 (x ^^^ BitVec.ofInt 8 b)) := by
  simp only [U8, binOp_xor, Op.intBits, IntKind.bits, ofInt_u8, wrap_u8]; rfl
theorem xor_U8_l (t : TypeId) (a : Int) (y : BitVec 8) : binOp .xor t (.int .u8 a) (U8 y) = pure (U8 (BitVec.ofInt 8 a ^^^ y)) := by
  simp only [U8, binOp_xor, Op.intBits, IntKind.bits, ofInt_u8, wrap_u8]; rfl
theorem andNot_U8 (t : TypeId) (x y : BitVec 8) : binOp .andNot t (U8 x) (U8 y) = pure (U8 (x &&& ~~~y)) := by
  simp only [U8, binOp_andNot, Op.intBits, IntKind.bits, ofInt_u8, wrap_u8]; rfl
theorem andNot_U8_r (t : TypeId) (x : BitVec 8) (b : Int) : binOp .andNot t (U8 x) (.int .u8 b) = pure (U8 (x &&& ~~~BitVec.ofInt 8 b)) := by
  simp only [U8, binOp_andNot, Op.intBits, IntKind.bits, ofInt_u8, wrap_u8]; rfl
theorem andNot_U8_l (t : TypeId) (a : Int) (y : BitVec 8) : binOp .andNot t (.int .u8 a) (U8 y) = pure (U8 (BitVec.ofInt 8 a &&& ~~~y)) := by
  simp only [U8, binOp_andNot, Op.intBits, IntKind.bits, ofInt_u8, wrap_u8]; rfl
theorem eql_U8 (t : TypeId) (x y : BitVec 8) : binOp .eql t (U8 x) (U8 y) = pure (.bool (x == y)) := by
  have h : ((x.toNat : Int) == (y.toNat : Int)) = (x == y) := by
    rw [Bool.eq_iff_iff, beq_iff_eq, beq_iff_eq]
    exact ⟨fun h => BitVec.eq_of_toNat_eq (by omega), fun h => by rw [h]⟩
  simp only [U8, binOp_eql, bne, h]
theorem eql_U8_r (t : TypeId) (x : BitVec 8) (b : Int) (hb : 0 ≤ b ∧ b < 256) : binOp .eql t (U8 x) (.int .u8 b) = pure (.bool (x == BitVec.ofNat 8 b.toNat)) := by rw [U8_raw b hb]; exact eql_U8 t _ _
theorem eql_U8_l (t : TypeId) (x : BitVec 8) (b : Int) (hb : 0 ≤ b ∧ b < 256) : binOp .eql t (.int .u8 b) (U8 x) = pure (.bool (BitVec.ofNat 8 b.toNat == x)) := by rw [U8_raw b hb]; exact eql_U8 t _ _
theorem neq_U8 (t : TypeId) (x y : BitVec 8) : binOp .neq t (U8 x) (U8 y) = pure (.bool (x != y)) := by
  have h : ((x.toNat : Int) == (y.toNat : Int)) = (x == y) := by
    rw [Bool.eq_iff_iff, beq_iff_eq, beq_iff_eq]
    exact ⟨fun h => BitVec.eq_of_toNat_eq (by omega), fun h => by rw [h]⟩
  simp only [U8, binOp_neq, bne, h]
theorem neq_U8_r (t : TypeId) (x : BitVec 8) (b : Int) (hb : 0 ≤ b ∧ b < 256) : binOp .neq t (U8 x) (.int .u8 b) = pure (.bool (x != BitVec.ofNat 8 b.toNat)) := by rw [U8_raw b hb]; exact neq_U8 t _ _
theorem neq_U8_l (t : TypeId) (x : BitVec 8) (b : Int) (hb : 0 ≤ b ∧ b < 256) : binOp .neq t (.int .u8 b) (U8 x) = pure (.bool (BitVec.ofNat 8 b.toNat != x)) := by rw [U8_raw b hb]; exact neq_U8 t _ _
theorem lss_U8 (t : TypeId) (x y : BitVec 8) : binOp .lss t (U8 x) (U8 y) = pure (.bool (decide (x.toNat < y.toNat))) := by simp only [U8, binOp_lss, GT.gt, GE.ge, Int.ofNat_lt, Int.ofNat_le]
theorem lss_U8_r (t : TypeId) (x : BitVec 8) (b : Int) (hb : 0 ≤ b) : binOp .lss t (U8 x) (.int .u8 b) = pure (.bool (decide (x.toNat < b.toNat))) := by
  obtain ⟨n, rfl⟩ := Int.eq_ofNat_of_zero_le hb
  simp only [U8, binOp_lss, GT.gt, GE.ge, Int.ofNat_lt, Int.ofNat_le, Int.toNat_natCast]
theorem lss_U8_l (t : TypeId) (x : BitVec 8) (b : Int) (hb : 0 ≤ b) : binOp .lss t (.int .u8 b) (U8 x) = pure (.bool (decide (b.toNat < x.toNat))) := by
  obtain ⟨n, rfl⟩ := Int.eq_ofNat_of_zero_le hb
  simp only [U8, binOp_lss, GT.gt, GE.ge, Int.ofNat_lt, Int.ofNat_le, Int.toNat_natCast]
theorem leq_U8 (t : TypeId) (x y : BitVec 8) : binOp .leq t (U8 x) (U8 y) = pure (.bool (decide (x.toNat ≤ y.toNat))) := by simp only [U8, binOp_leq, GT.gt, GE.ge, Int.ofNat_lt, Int.ofNat_le]
theorem leq_U8_r (t : TypeId) (x : BitVec 8) (b : Int) (hb : 0 ≤ b) : binOp .leq t (U8 x) (.int .u8 b) = pure (.bool (decide (x.toNat ≤ b.toNat))) := by
  obtain ⟨n, rfl⟩ := Int.eq_ofNat_of_zero_le hb
  simp only [U8, binOp_leq, GT.gt, GE.ge, Int.ofNat_lt, Int.ofNat_le, Int.toNat_natCast]
theorem leq_U8_l (t : TypeId) (x : BitVec 8) (b : Int) (hb : 0 ≤ b) : binOp .leq t (.int .u8 b) (U8 x) = pure (.bool (decide (b.toNat ≤ x.toNat))) := by
  obtain ⟨n, rfl⟩ := Int.eq_ofNat_of_zero_le hb
  simp only [U8, binOp_leq, GT.gt, GE.ge, Int.ofNat_lt, Int.ofNat_le, Int.toNat_natCast]
theorem gtr_U8 (t : TypeId) (x y : BitVec 8) : binOp .gtr t (U8 x) (U8 y) = pure (.bool (decide (y.toNat < x.toNat))) := by simp only [U8, binOp_gtr, GT.gt, GE.ge, Int.ofNat_lt, Int.ofNat_le]
theorem gtr_U8_r (t : TypeId) (x : BitVec 8) (b : Int) (hb : 0 ≤ b) : binOp .gtr t (U8 x) (.int .u8 b) = pure (.bool (decide (b.toNat < x.toNat))) := by
  obtain ⟨n, rfl⟩ := Int.eq_ofNat_of_zero_le hb
  simp only [U8, binOp_gtr, GT.gt, GE.ge, Int.ofNat_lt, Int.ofNat_le, Int.toNat_natCast]
theorem gtr_U8_l (t : TypeId) (x : BitVec 8) (b : Int) (hb : 0 ≤ b) : binOp .gtr t (.int .u8 b) (U8 x) = pure (.bool (decide (x.toNat < b.toNat))) := by
  obtain ⟨n, rfl⟩ := Int.eq_ofNat_of_zero_le hb
  simp only [U8, binOp_gtr, GT.gt, GE.ge, Int.ofNat_lt, Int.ofNat_le, Int.toNat_natCast]
theorem geq_U8 (t : TypeId) (x y : BitVec 8) : binOp .geq t (U8 x) (U8 y) = pure (.bool (decide (y.toNat ≤ x.toNat))) := by simp only [U8, binOp_geq, GT.gt, GE.ge, Int.ofNat_lt, Int.ofNat_le]
theorem geq_U8_r (t : TypeId) (x : BitVec 8) (b : Int) (hb : 0 ≤ b) : binOp .geq t (U8 x) (.int .u8 b) = pure (.bool (decide (b.toNat ≤ x.toNat))) := by
  obtain ⟨n, rfl⟩ := Int.eq_ofNat_of_zero_le hb
  simp only [U8, binOp_geq, GT.gt, GE.ge, Int.ofNat_lt, Int.ofNat_le, Int.toNat_natCast]
theorem geq_U8_l (t : TypeId) (x : BitVec 8) (b : Int) (hb : 0 ≤ b) : binOp .geq t (.int .u8 b) (U8 x) = pure (.bool (decide (x.toNat ≤ b.toNat))) := by
  obtain ⟨n, rfl⟩ := Int.eq_ofNat_of_zero_le hb
  simp only [U8, binOp_geq, GT.gt, GE.ge, Int.ofNat_lt, Int.ofNat_le, Int.toNat_natCast]
theorem guard_eql_U8 (t : TypeId) (p q : Operand) (x : BitVec 8) (v : Value) : eqGuard .eql t p q (U8 x) v = pure () := by
  simp only [eqGuard, U8]; rfl
theorem guard_eql_U8_l (t : TypeId) (p q : Operand) (y : BitVec 8) (k : IntKind) (a : Int) : eqGuard .eql t p q (.int k a) (U8 y) = pure () := by
  simp only [eqGuard, U8]; rfl
theorem guard_neq_U8 (t : TypeId) (p q : Operand) (x : BitVec 8) (v : Value) : eqGuard .neq t p q (U8 x) v = pure () := by
  simp only [eqGuard, U8]; rfl
theorem guard_neq_U8_l (t : TypeId) (p q : Operand) (y : BitVec 8) (k : IntKind) (a : Int) : eqGuard .neq t p q (.int k a) (U8 y) = pure () := by
  simp only [eqGuard, U8]; rfl
theorem shl_U8 (t : TypeId) (x : BitVec 8) (yk : IntKind) (c : Int) (hc : 0 ≤ c) : binOp .shl t (U8 x) (.int yk c) = pure (U8 (x <<< c.toNat)) := by
  have h : IntKind.u8.wrap ((x.toNat : Int) * 2 ^ min c.toNat 8) = ((x <<< c.toNat).toNat : Int) := by
    rw [wrap_u8', BitVec.toNat_shiftLeft, Nat.shiftLeft_eq]
    by_cases hh : c.toNat ≤ 8
    · rw [Nat.min_eq_left hh]
      show _ = ((x.toNat * 2 ^ c.toNat % 256 : Nat) : Int)
      simp only [Int.natCast_emod, Int.natCast_mul, Int.natCast_pow, Int.cast_ofNat_Int]
    · rw [Nat.min_eq_right (by omega)]
      have e : 2 ^ c.toNat = 2 ^ 8 * 2 ^ (c.toNat - 8) := by rw [← Nat.pow_add]; congr 1; omega
      have e2 : x.toNat * 2 ^ c.toNat % 2 ^ 8 = 0 := by
        rw [e, Nat.mul_left_comm]; exact Nat.mul_mod_right _ _
      rw [e2]
      exact Int.mul_emod_left _ _
  show Op.shift .shl .u8 _ yk c = _
  unfold Op.shift
  rw [if_neg (by omega)]
  simp only [U8, IntKind.bits, h]
theorem shr_U8 (t : TypeId) (x : BitVec 8) (yk : IntKind) (c : Int) (hc : 0 ≤ c) : binOp .shr t (U8 x) (.int yk c) = pure (U8 (x >>> c.toNat)) := by
  have h : Int.fdiv (x.toNat : Int) (2 ^ min c.toNat 8) = ((x >>> c.toNat).toNat : Int) := by
    rw [Int.fdiv_eq_ediv_of_nonneg _ (Int.pow_nonneg (by decide)), BitVec.toNat_ushiftRight, Nat.shiftRight_eq_div_pow]
    by_cases hh : c.toNat ≤ 8
    · rw [Nat.min_eq_left hh]
      simp only [Int.natCast_ediv, Int.natCast_pow, Int.cast_ofNat_Int]
    · rw [Nat.min_eq_right (by omega)]
      have hx := x.isLt
      have e : 2 ^ 8 ≤ 2 ^ c.toNat := Nat.pow_le_pow_right (by decide) (by omega)
      rw [Nat.div_eq_of_lt (by omega)]
      show ((x.toNat : Nat) : Int) / ((2 ^ 8 : Nat) : Int) = 0
      rw [← Int.natCast_ediv, Nat.div_eq_of_lt hx]
      rfl
  show Op.shift .shr .u8 _ yk c = _
  unfold Op.shift
  rw [if_neg (by omega)]
  simp only [U8, IntKind.bits, h]
theorem not_U8 (x : BitVec 8) : Op.unary .xor (U8 x) = pure (U8 (~~~x)) := by
  have e : BitVec.ofInt 8 (IntKind.u8.max) = BitVec.allOnes 8 := by decide
  have h : BitVec.ofInt 8 (IntKind.u8.max) ^^^ x = ~~~x := by rw [e, BitVec.allOnes_xor]
  simp only [U8, unary_xor, IntKind.signed, Op.intBits, IntKind.bits, Bool.false_eq_true, if_false, ofInt_u8, h, wrap_u8]; rfl
theorem store_U8 (P : Program) (w : World) (a : Addr) (m : Mode) (x : BitVec 8) : (store a (U8 x) m).run P w = stored P w a (U8 x) m := run_store P w a _ m rfl
theorem indexAt_U8 (t : TypeId) (b : Value) (x : BitVec 8) : Instr.indexAt t b (U8 x) = Instr.indexAt t b (.int .u8 (idx x : Int)) := rfl
theorem index_U8 (t : TypeId) (b : Value) (x : BitVec 8) : Instr.index t b (U8 x) = Instr.index t b (.int .u8 (idx x : Int)) := rfl
theorem conv_U8_U32 (P : Program) (w : World) (src dst : TypeId) (x : BitVec 8) (hs : (P.underlying src).isSome = true) (hd : P.underlying dst = some (.int .u32)) : (convert src dst (U8 x)).run P w = .ok (U32 (x.setWidth 32)) w := by
  obtain ⟨d, hd'⟩ := Option.isSome_iff_exists.mp hs
  have h : IntKind.u32.wrap (x.toNat : Int) = ((x.setWidth 32).toNat : Int) := by
    rw [wrap_u32', BitVec.toNat_setWidth]
    show _ = ((x.toNat % 4294967296 : Nat) : Int)
    omega
  simp [convert, run_underlying hd', run_underlying hd, Conv.intToInt, U8, U32, h]
theorem conv_U8_U64 (P : Program) (w : World) (src dst : TypeId) (x : BitVec 8) (hs : (P.underlying src).isSome = true) (hd : P.underlying dst = some (.int .u64)) : (convert src dst (U8 x)).run P w = .ok (U64 (x.setWidth 64)) w := by
  obtain ⟨d, hd'⟩ := Option.isSome_iff_exists.mp hs
  have h : IntKind.u64.wrap (x.toNat : Int) = ((x.setWidth 64).toNat : Int) := by
    rw [wrap_u64', BitVec.toNat_setWidth]
    show _ = ((x.toNat % 18446744073709551616 : Nat) : Int)
    omega
  simp [convert, run_underlying hd', run_underlying hd, Conv.intToInt, U8, U64, h]
theorem conv_U8_int (P : Program) (w : World) (src dst : TypeId) (x : BitVec 8) (hs : (P.underlying src).isSome = true) (hd : P.underlying dst = some (.int .i64)) : (convert src dst (U8 x)).run P w = .ok (.int .i64 (x.toNat : Int)) w := by
  obtain ⟨d, hd'⟩ := Option.isSome_iff_exists.mp hs
  have h : IntKind.i64.wrap (x.toNat : Int) = (x.toNat : Int) := by
    have := x.isLt
    exact IntWalk.i64_in _ ⟨by omega, by omega⟩
  simp [convert, run_underlying hd', run_underlying hd, Conv.intToInt, U8, h]
theorem add_U32 (t : TypeId) (x y : BitVec 32) : binOp .add t (U32 x) (U32 y) = pure (U32 (x + y)) := by
  simp only [U32, binOp_add, Op.intArith, wrap_u32, BitVec.ofInt_add, ofInt_u32]
theorem add_U32_r (t : TypeId) (x : BitVec 32) (b : Int) : binOp .add t (U32 x) (.int .u32 b) = pure (U32 (x + BitVec.ofInt 32 b)) := by
  simp only [U32, binOp_add, Op.intArith, wrap_u32, BitVec.ofInt_add, ofInt_u32]
theorem add_U32_l (t : TypeId) (a : Int) (y : BitVec 32) : binOp .add t (.int .u32 a) (U32 y) = pure (U32 (BitVec.ofInt 32 a + y)) := by
  simp only [U32, binOp_add, Op.intArith, wrap_u32, BitVec.ofInt_add, ofInt_u32]
theorem sub_U32 (t : TypeId) (x y : BitVec 32) : binOp .sub t (U32 x) (U32 y) = pure (U32 (x - y)) := by
  simp only [U32, binOp_sub, Op.intArith, wrap_u32, ofInt_sub', ofInt_u32]
theorem sub_U32_r (t : TypeId) (x : BitVec 32) (b : Int) : binOp .sub t (U32 x) (.int .u32 b) = pure (U32 (x - BitVec.ofInt 32 b)) := by
  simp only [U32, binOp_sub, Op.intArith, wrap_u32, ofInt_sub', ofInt_u32]
theorem sub_U32_l (t : TypeId) (a : Int) (y : BitVec 32) : binOp .sub t (.int .u32 a) (U32 y) = pure (U32 (BitVec.ofInt 32 a - y)) := by
  simp only [U32, binOp_sub, Op.intArith, wrap_u32, ofInt_sub', ofInt_u32]
theorem mul_U32 (t : TypeId) (x y : BitVec 32) : binOp .mul t (U32 x) (U32 y) = pure (U32 (x * y)) := by
  simp only [U32, binOp_mul, Op.intArith, wrap_u32, BitVec.ofInt_mul, ofInt_u32]
theorem mul_U32_r (t : TypeId) (x : BitVec 32) (b : Int) : binOp .mul t (U32 x) (.int .u32 b) = pure (U32 (x * BitVec.ofInt 32 b)) := by
  simp only [U32, binOp_mul, Op.intArith, wrap_u32, BitVec.ofInt_mul, ofInt_u32]
theorem mul_U32_l (t : TypeId) (a : Int) (y : BitVec 32) : binOp .mul t (.int .u32 a) (U32 y) = pure (U32 (BitVec.ofInt 32 a * y)) := by
  simp only [U32, binOp_mul, Op.intArith, wrap_u32, BitVec.ofInt_mul, ofInt_u32]
theorem and_U32 (t : TypeId) (x y : BitVec 32) : binOp .and t (U32 x) (U32 y) = pure (U32 (x &&& y)) := by
  simp only [U32, binOp_and, Op.intBits, IntKind.bits, ofInt_u32, wrap_u32]; rfl
theorem and_U32_r (t : TypeId) (x : BitVec 32) (b : Int) : binOp .and t (U32 x) (.int .u32 b) = pure (U32 (x &&& BitVec.ofInt 32 b)) := by
  simp only [U32, binOp_and, Op.intBits, IntKind.bits, ofInt_u32, wrap_u32]; rfl
theorem and_U32_l (t : TypeId) (a : Int) (y : BitVec 32) : binOp .and t (.int .u32 a) (U32 y) = pure (U32 (BitVec.ofInt 32 a &&& y)) := by
  simp only [U32, binOp_and, Op.intBits, IntKind.bits, ofInt_u32, wrap_u32]; rfl
theorem or_U32 (t : TypeId) (x y : BitVec 32) : binOp .or t (U32 x) (U32 y) = pure (U32 (x ||| y)) := by
  simp only [U32, binOp_or, Op.intBits, IntKind.bits, ofInt_u32, wrap_u32]; rfl
theorem or_U32_r (t : TypeId) (x : BitVec 32) (b : Int) : binOp .or t (U32 x) (.int .u32 b) = pure (U32 (x ||| BitVec.ofInt 32 b)) := by
  simp only [U32, binOp_or, Op.intBits, IntKind.bits, ofInt_u32, wrap_u32]; rfl
theorem or_U32_l (t : TypeId) (a : Int) (y : BitVec 32) : binOp .or t (.int .u32 a) (U32 y) = pure (U32 (BitVec.ofInt 32 a ||| y)) := by
  simp only [U32, binOp_or, Op.intBits, IntKind.bits, ofInt_u32, wrap_u32]; rfl
theorem xor_U32 (t : TypeId) (x y : BitVec 32) : binOp .xor t (U32 x) (U32 y) = pure (U32 (x ^^^ y)) := by
  simp only [U32, binOp_xor, Op.intBits, IntKind.bits, ofInt_u32, wrap_u32]; rfl
theorem xor_U32_r (t : TypeId) (x : BitVec 32) (b : Int) : binOp .xor t (U32 x) (.int .u32 b) = pure (U32 (x ^^^ BitVec.ofInt 32 b)) := by
  simp only [U32, binOp_xor, Op.intBits, IntKind.bits, ofInt_u32, wrap_u32]; rfl
theorem xor_U32_l (t : TypeId) (a : Int) (y : BitVec 32) : binOp .xor t (.int .u32 a) (U32 y) = pure (U32 (BitVec.ofInt 32 a ^^^ y)) := by
  simp only [U32, binOp_xor, Op.intBits, IntKind.bits, ofInt_u32, wrap_u32]; rfl
theorem andNot_U32 (t : TypeId) (x y : BitVec 32) : binOp .andNot t (U32 x) (U32 y) = pure (U32 (x &&& ~~~y)) := by
  simp only [U32, binOp_andNot, Op.intBits, IntKind.bits, ofInt_u32, wrap_u32]; rfl
theorem andNot_U32_r (t : TypeId) (x : BitVec 32) (b : Int) : binOp .andNot t (U32 x) (.int .u32 b) = pure (U32 (x &&& ~~~BitVec.ofInt 32 b)) := by
  simp only [U32, binOp_andNot, Op.intBits, IntKind.bits, ofInt_u32, wrap_u32]; rfl
theorem andNot_U32_l (t : TypeId) (a : Int) (y : BitVec 32) : binOp .andNot t (.int .u32 a) (U32 y) = pure (U32 (BitVec.ofInt 32 a &&& ~~~y)) := by
  simp only [U32, binOp_andNot, Op.intBits, IntKind.bits, ofInt_u32, wrap_u32]; rfl
theorem eql_U32 (t : TypeId) (x y : BitVec 32) : binOp .eql t (U32 x) (U32 y) = pure (.bool (x == y)) := by
  have h : ((x.toNat : Int) == (y.toNat : Int)) = (x == y) := by
    rw [Bool.eq_iff_iff, beq_iff_eq, beq_iff_eq]
    exact ⟨fun h => BitVec.eq_of_toNat_eq (by omega), fun h => by rw [h]⟩
  simp only [U32, binOp_eql, bne, h]
theorem eql_U32_r (t : TypeId) (x : BitVec 32) (b : Int) (hb : 0 ≤ b ∧ b < 4294967296) : binOp .eql t (U32 x) (.int .u32 b) = pure (.bool (x == BitVec.ofNat 32 b.toNat)) := by rw [U32_raw b hb]; exact eql_U32 t _ _
theorem eql_U32_l (t : TypeId) (x : BitVec 32) (b : Int) (hb : 0 ≤ b ∧ b < 4294967296) : binOp .eql t (.int .u32 b) (U32 x) = pure (.bool (BitVec.ofNat 32 b.toNat == x)) := by rw [U32_raw b hb]; exact eql_U32 t _ _
theorem neq_U32 (t : TypeId) (x y : BitVec 32) : binOp .neq t (U32 x) (U32 y) = pure (.bool (x != y)) := by
  have h : ((x.toNat : Int) == (y.toNat : Int)) = (x == y) := by
    rw [Bool.eq_iff_iff, beq_iff_eq, beq_iff_eq]
    exact ⟨fun h => BitVec.eq_of_toNat_eq (by omega), fun h => by rw [h]⟩
  simp only [U32, binOp_neq, bne, h]
theorem neq_U32_r (t : TypeId) (x : BitVec 32) (b : Int) (hb : 0 ≤ b ∧ b < 4294967296) : binOp .neq t (U32 x) (.int .u32 b) = pure (.bool (x != BitVec.ofNat 32 b.toNat)) := by rw [U32_raw b hb]; exact neq_U32 t _ _
theorem neq_U32_l (t : TypeId) (x : BitVec 32) (b : Int) (hb : 0 ≤ b ∧ b < 4294967296) : binOp .neq t (.int .u32 b) (U32 x) = pure (.bool (BitVec.ofNat 32 b.toNat != x)) := by rw [U32_raw b hb]; exact neq_U32 t _ _
theorem lss_U32 (t : TypeId) (x y : BitVec 32) : binOp .lss t (U32 x) (U32 y) = pure (.bool (decide (x.toNat < y.toNat))) := by simp only [U32, binOp_lss, GT.gt, GE.ge, Int.ofNat_lt, Int.ofNat_le]
theorem lss_U32_r (t : TypeId) (x : BitVec 32) (b : Int) (hb : 0 ≤ b) : binOp .lss t (U32 x) (.int .u32 b) = pure (.bool (decide (x.toNat < b.toNat))) := by
  obtain ⟨n, rfl⟩ := Int.eq_ofNat_of_zero_le hb
  simp only [U32, binOp_lss, GT.gt, GE.ge, Int.ofNat_lt, Int.ofNat_le, Int.toNat_natCast]
theorem lss_U32_l (t : TypeId) (x : BitVec 32) (b : Int) (hb : 0 ≤ b) : binOp .lss t (.int .u32 b) (U32 x) = pure (.bool (decide (b.toNat < x.toNat))) := by
  obtain ⟨n, rfl⟩ := Int.eq_ofNat_of_zero_le hb
  simp only [U32, binOp_lss, GT.gt, GE.ge, Int.ofNat_lt, Int.ofNat_le, Int.toNat_natCast]
theorem leq_U32 (t : TypeId) (x y : BitVec 32) : binOp .leq t (U32 x) (U32 y) = pure (.bool (decide (x.toNat ≤ y.toNat))) := by simp only [U32, binOp_leq, GT.gt, GE.ge, Int.ofNat_lt, Int.ofNat_le]
theorem leq_U32_r (t : TypeId) (x : BitVec 32) (b : Int) (hb : 0 ≤ b) : binOp .leq t (U32 x) (.int .u32 b) = pure (.bool (decide (x.toNat ≤ b.toNat))) := by
  obtain ⟨n, rfl⟩ := Int.eq_ofNat_of_zero_le hb
  simp only [U32, binOp_leq, GT.gt, GE.ge, Int.ofNat_lt, Int.ofNat_le, Int.toNat_natCast]
theorem leq_U32_l (t : TypeId) (x : BitVec 32) (b : Int) (hb : 0 ≤ b) : binOp .leq t (.int .u32 b) (U32 x) = pure (.bool (decide (b.toNat ≤ x.toNat))) := by
  obtain ⟨n, rfl⟩ := Int.eq_ofNat_of_zero_le hb
  simp only [U32, binOp_leq, GT.gt, GE.ge, Int.ofNat_lt, Int.ofNat_le, Int.toNat_natCast]
theorem gtr_U32 (t : TypeId) (x y : BitVec 32) : binOp .gtr t (U32 x) (U32 y) = pure (.bool (decide (y.toNat < x.toNat))) := by simp only [U32, binOp_gtr, GT.gt, GE.ge, Int.ofNat_lt, Int.ofNat_le]
theorem gtr_U32_r (t : TypeId) (x : BitVec 32) (b : Int) (hb : 0 ≤ b) : binOp .gtr t (U32 x) (.int .u32 b) = pure (.bool (decide (b.toNat < x.toNat))) := by
  obtain ⟨n, rfl⟩ := Int.eq_ofNat_of_zero_le hb
  simp only [U32, binOp_gtr, GT.gt, GE.ge, Int.ofNat_lt, Int.ofNat_le, Int.toNat_natCast]
theorem gtr_U32_l (t : TypeId) (x : BitVec 32) (b : Int) (hb : 0 ≤ b) : binOp .gtr t (.int .u32 b) (U32 x) = pure (.bool (decide (x.toNat < b.toNat))) := by
  obtain ⟨n, rfl⟩ := Int.eq_ofNat_of_zero_le hb
  simp only [U32, binOp_gtr, GT.gt, GE.ge, Int.ofNat_lt, Int.ofNat_le, Int.toNat_natCast]
theorem geq_U32 (t : TypeId) (x y : BitVec 32) : binOp .geq t (U32 x) (U32 y) = pure (.bool (decide (y.toNat ≤ x.toNat))) := by simp only [U32, binOp_geq, GT.gt, GE.ge, Int.ofNat_lt, Int.ofNat_le]
theorem geq_U32_r (t : TypeId) (x : BitVec 32) (b : Int) (hb : 0 ≤ b) : binOp .geq t (U32 x) (.int .u32 b) = pure (.bool (decide (b.toNat ≤ x.toNat))) := by
  obtain ⟨n, rfl⟩ := Int.eq_ofNat_of_zero_le hb
  simp only [U32, binOp_geq, GT.gt, GE.ge, Int.ofNat_lt, Int.ofNat_le, Int.toNat_natCast]
theorem geq_U32_l (t : TypeId) (x : BitVec 32) (b : Int) (hb : 0 ≤ b) : binOp .geq t (.int .u32 b) (U32 x) = pure (.bool (decide (x.toNat ≤ b.toNat))) := by
  obtain ⟨n, rfl⟩ := Int.eq_ofNat_of_zero_le hb
  simp only [U32, binOp_geq, GT.gt, GE.ge, Int.ofNat_lt, Int.ofNat_le, Int.toNat_natCast]
theorem guard_eql_U32 (t : TypeId) (p q : Operand) (x : BitVec 32) (v : Value) : eqGuard .eql t p q (U32 x) v = pure () := by
  simp only [eqGuard, U32]; rfl
theorem guard_eql_U32_l (t : TypeId) (p q : Operand) (y : BitVec 32) (k : IntKind) (a : Int) : eqGuard .eql t p q (.int k a) (U32 y) = pure () := by
  simp only [eqGuard, U32]; rfl
theorem guard_neq_U32 (t : TypeId) (p q : Operand) (x : BitVec 32) (v : Value) : eqGuard .neq t p q (U32 x) v = pure () := by
  simp only [eqGuard, U32]; rfl
theorem guard_neq_U32_l (t : TypeId) (p q : Operand) (y : BitVec 32) (k : IntKind) (a : Int) : eqGuard .neq t p q (.int k a) (U32 y) = pure () := by
  simp only [eqGuard, U32]; rfl
theorem shl_U32 (t : TypeId) (x : BitVec 32) (yk : IntKind) (c : Int) (hc : 0 ≤ c) : binOp .shl t (U32 x) (.int yk c) = pure (U32 (x <<< c.toNat)) := by
  have h : IntKind.u32.wrap ((x.toNat : Int) * 2 ^ min c.toNat 32) = ((x <<< c.toNat).toNat : Int) := by
    rw [wrap_u32', BitVec.toNat_shiftLeft, Nat.shiftLeft_eq]
    by_cases hh : c.toNat ≤ 32
    · rw [Nat.min_eq_left hh]
      show _ = ((x.toNat * 2 ^ c.toNat % 4294967296 : Nat) : Int)
      simp only [Int.natCast_emod, Int.natCast_mul, Int.natCast_pow, Int.cast_ofNat_Int]
    · rw [Nat.min_eq_right (by omega)]
      have e : 2 ^ c.toNat = 2 ^ 32 * 2 ^ (c.toNat - 32) := by rw [← Nat.pow_add]; congr 1; omega
      have e2 : x.toNat * 2 ^ c.toNat % 2 ^ 32 = 0 := by
        rw [e, Nat.mul_left_comm]; exact Nat.mul_mod_right _ _
      rw [e2]
      exact Int.mul_emod_left _ _
  show Op.shift .shl .u32 _ yk c = _
  unfold Op.shift
  rw [if_neg (by omega)]
  simp only [U32, IntKind.bits, h]
theorem shr_U32 (t : TypeId) (x : BitVec 32) (yk : IntKind) (c : Int) (hc : 0 ≤ c) : binOp .shr t (U32 x) (.int yk c) = pure (U32 (x >>> c.toNat)) := by
  have h : Int.fdiv (x.toNat : Int) (2 ^ min c.toNat 32) = ((x >>> c.toNat).toNat : Int) := by
    rw [Int.fdiv_eq_ediv_of_nonneg _ (Int.pow_nonneg (by decide)), BitVec.toNat_ushiftRight, Nat.shiftRight_eq_div_pow]
    by_cases hh : c.toNat ≤ 32
    · rw [Nat.min_eq_left hh]
      simp only [Int.natCast_ediv, Int.natCast_pow, Int.cast_ofNat_Int]
    · rw [Nat.min_eq_right (by omega)]
      have hx := x.isLt
      have e : 2 ^ 32 ≤ 2 ^ c.toNat := Nat.pow_le_pow_right (by decide) (by omega)
      rw [Nat.div_eq_of_lt (by omega)]
      show ((x.toNat : Nat) : Int) / ((2 ^ 32 : Nat) : Int) = 0
      rw [← Int.natCast_ediv, Nat.div_eq_of_lt hx]
      rfl
  show Op.shift .shr .u32 _ yk c = _
  unfold Op.shift
  rw [if_neg (by omega)]
  simp only [U32, IntKind.bits, h]
theorem not_U32 (x : BitVec 32) : Op.unary .xor (U32 x) = pure (U32 (~~~x)) := by
  have e : BitVec.ofInt 32 (IntKind.u32.max) = BitVec.allOnes 32 := by decide
  have h : BitVec.ofInt 32 (IntKind.u32.max) ^^^ x = ~~~x := by rw [e, BitVec.allOnes_xor]
  simp only [U32, unary_xor, IntKind.signed, Op.intBits, IntKind.bits, Bool.false_eq_true, if_false, ofInt_u32, h, wrap_u32]; rfl
theorem store_U32 (P : Program) (w : World) (a : Addr) (m : Mode) (x : BitVec 32) : (store a (U32 x) m).run P w = stored P w a (U32 x) m := run_store P w a _ m rfl
theorem indexAt_U32 (t : TypeId) (b : Value) (x : BitVec 32) : Instr.indexAt t b (U32 x) = Instr.indexAt t b (.int .u32 (idx x : Int)) := rfl
theorem index_U32 (t : TypeId) (b : Value) (x : BitVec 32) : Instr.index t b (U32 x) = Instr.index t b (.int .u32 (idx x : Int)) := rfl
theorem conv_U32_U8 (P : Program) (w : World) (src dst : TypeId) (x : BitVec 32) (hs : (P.underlying src).isSome = true) (hd : P.underlying dst = some (.int .u8)) : (convert src dst (U32 x)).run P w = .ok (U8 (x.setWidth 8)) w := by
  obtain ⟨d, hd'⟩ := Option.isSome_iff_exists.mp hs
  have h : IntKind.u8.wrap (x.toNat : Int) = ((x.setWidth 8).toNat : Int) := by
    rw [wrap_u8', BitVec.toNat_setWidth]
    show _ = ((x.toNat % 256 : Nat) : Int)
    omega
  simp [convert, run_underlying hd', run_underlying hd, Conv.intToInt, U32, U8, h]
theorem conv_U32_U64 (P : Program) (w : World) (src dst : TypeId) (x : BitVec 32) (hs : (P.underlying src).isSome = true) (hd : P.underlying dst = some (.int .u64)) : (convert src dst (U32 x)).run P w = .ok (U64 (x.setWidth 64)) w := by
  obtain ⟨d, hd'⟩ := Option.isSome_iff_exists.mp hs
  have h : IntKind.u64.wrap (x.toNat : Int) = ((x.setWidth 64).toNat : Int) := by
    rw [wrap_u64', BitVec.toNat_setWidth]
    show _ = ((x.toNat % 18446744073709551616 : Nat) : Int)
    omega
  simp [convert, run_underlying hd', run_underlying hd, Conv.intToInt, U32, U64, h]
theorem conv_U32_int (P : Program) (w : World) (src dst : TypeId) (x : BitVec 32) (hs : (P.underlying src).isSome = true) (hd : P.underlying dst = some (.int .i64)) : (convert src dst (U32 x)).run P w = .ok (.int .i64 (x.toNat : Int)) w := by
  obtain ⟨d, hd'⟩ := Option.isSome_iff_exists.mp hs
  have h : IntKind.i64.wrap (x.toNat : Int) = (x.toNat : Int) := by
    have := x.isLt
    exact IntWalk.i64_in _ ⟨by omega, by omega⟩
  simp [convert, run_underlying hd', run_underlying hd, Conv.intToInt, U32, h]
theorem add_U64 (t : TypeId) (x y : BitVec 64) : binOp .add t (U64 x) (U64 y) = pure (U64 (x + y)) := by
  simp only [U64, binOp_add, Op.intArith, wrap_u64, BitVec.ofInt_add, ofInt_u64]
theorem add_U64_r (t : TypeId) (x : BitVec 64) (b : Int) : binOp .add t (U64 x) (.int .u64 b) = pure (U64 (x + BitVec.ofInt 64 b)) := by
  simp only [U64, binOp_add, Op.intArith, wrap_u64, BitVec.ofInt_add, ofInt_u64]
theorem add_U64_l (t : TypeId) (a : Int) (y : BitVec 64) : binOp .add t (.int .u64 a) (U64 y) = pure (U64 (BitVec.ofInt 64 a + y)) := by
  simp only [U64, binOp_add, Op.intArith, wrap_u64, BitVec.ofInt_add, ofInt_u64]
theorem sub_U64 (t : TypeId) (x y : BitVec 64) : binOp .sub t (U64 x) (U64 y) = pure (U64 (x - y)) := by
  simp only [U64, binOp_sub, Op.intArith, wrap_u64, ofInt_sub', ofInt_u64]
theorem sub_U64_r (t : TypeId) (x : BitVec 64) (b : Int) : binOp .sub t (U64 x) (.int .u64 b) = pure (U64 (x - BitVec.ofInt 64 b)) := by
  simp only [U64, binOp_sub, Op.intArith, wrap_u64, ofInt_sub', ofInt_u64]
theorem sub_U64_l (t : TypeId) (a : Int) (y : BitVec 64) : binOp .sub t (.int .u64 a) (U64 y) = pure (U64 (BitVec.ofInt 64 a - y)) := by
  simp only [U64, binOp_sub, Op.intArith, wrap_u64, ofInt_sub', ofInt_u64]
theorem mul_U64 (t : TypeId) (x y : BitVec 64) : binOp .mul t (U64 x) (U64 y) = pure (U64 (x * y)) := by
  simp only [U64, binOp_mul, Op.intArith, wrap_u64, BitVec.ofInt_mul, ofInt_u64]
theorem mul_U64_r (t : TypeId) (x : BitVec 64) (b : Int) : binOp .mul t (U64 x) (.int .u64 b) = pure (U64 (x * BitVec.ofInt 64 b)) := by
  simp only [U64, binOp_mul, Op.intArith, wrap_u64, BitVec.ofInt_mul, ofInt_u64]
theorem mul_U64_l (t : TypeId) (a : Int) (y : BitVec 64) : binOp .mul t (.int .u64 a) (U64 y) = pure (U64 (BitVec.ofInt 64 a * y)) := by
  simp only [U64, binOp_mul, Op.intArith, wrap_u64, BitVec.ofInt_mul, ofInt_u64]
theorem and_U64 (t : TypeId) (x y : BitVec 64) : binOp .and t (U64 x) (U64 y) = pure (U64 (x &&& y)) := by
  simp only [U64, binOp_and, Op.intBits, IntKind.bits, ofInt_u64, wrap_u64]; rfl
theorem and_U64_r (t : TypeId) (x : BitVec 64) (b : Int) : binOp .and t (U64 x) (.int .u64 b) = pure (U64 (x &&& BitVec.ofInt 64 b)) := by
  simp only [U64, binOp_and, Op.intBits, IntKind.bits, ofInt_u64, wrap_u64]; rfl
theorem and_U64_l (t : TypeId) (a : Int) (y : BitVec 64) : binOp .and t (.int .u64 a) (U64 y) = pure (U64 (BitVec.ofInt 64 a &&& y)) := by
  simp only [U64, binOp_and, Op.intBits, IntKind.bits, ofInt_u64, wrap_u64]; rfl
theorem or_U64 (t : TypeId) (x y : BitVec 64) : binOp .or t (U64 x) (U64 y) = pure (U64 (x ||| y)) := by
  simp only [U64, binOp_or, Op.intBits, IntKind.bits, ofInt_u64, wrap_u64]; rfl
theorem or_U64_r (t : TypeId) (x : BitVec 64) (b : Int) : binOp .or t (U64 x) (.int .u64 b) = pure (U64 (x ||| BitVec.ofInt 64 b)) := by
  simp only [U64, binOp_or, Op.intBits, IntKind.bits, ofInt_u64, wrap_u64]; rfl
theorem or_U64_l (t : TypeId) (a : Int) (y : BitVec 64) : binOp .or t (.int .u64 a) (U64 y) = pure (U64 (BitVec.ofInt 64 a ||| y)) := by
  simp only [U64, binOp_or, Op.intBits, IntKind.bits, ofInt_u64, wrap_u64]; rfl
theorem xor_U64 (t : TypeId) (x y : BitVec 64) : binOp .xor t (U64 x) (U64 y) = pure (U64 (x ^^^ y)) := by
  simp only [U64, binOp_xor, Op.intBits, IntKind.bits, ofInt_u64, wrap_u64]; rfl
theorem xor_U64_r (t : TypeId) (x : BitVec 64) (b : Int) : binOp .xor t (U64 x) (.int .u64 b) = pure (U64 (x ^^^ BitVec.ofInt 64 b)) := by
  simp only [U64, binOp_xor, Op.intBits, IntKind.bits, ofInt_u64, wrap_u64]; rfl
theorem xor_U64_l (t : TypeId) (a : Int) (y : BitVec 64) : binOp .xor t (.int .u64 a) (U64 y) = pure (U64 (BitVec.ofInt 64 a ^^^ y)) := by
  simp only [U64, binOp_xor, Op.intBits, IntKind.bits, ofInt_u64, wrap_u64]; rfl
theorem andNot_U64 (t : TypeId) (x y : BitVec 64) : binOp .andNot t (U64 x) (U64 y) = pure (U64 (x &&& ~~~y)) := by
  simp only [U64, binOp_andNot, Op.intBits, IntKind.bits, ofInt_u64, wrap_u64]; rfl
theorem andNot_U64_r (t : TypeId) (x : BitVec 64) (b : Int) : binOp .andNot t (U64 x) (.int .u64 b) = pure (U64 (x &&& ~~~BitVec.ofInt 64 b)) := by
  simp only [U64, binOp_andNot, Op.intBits, IntKind.bits, ofInt_u64, wrap_u64]; rfl
theorem andNot_U64_l (t : TypeId) (a : Int) (y : BitVec 64) : binOp .andNot t (.int .u64 a) (U64 y) = pure (U64 (BitVec.ofInt 64 a &&& ~~~y)) := by
  simp only [U64, binOp_andNot, Op.intBits, IntKind.bits, ofInt_u64, wrap_u64]; rfl
theorem eql_U64 (t : TypeId) (x y : BitVec 64) : binOp .eql t (U64 x) (U64 y) = pure (.bool (x == y)) := by
  have h : ((x.toNat : Int) == (y.toNat : Int)) = (x == y) := by
    rw [Bool.eq_iff_iff, beq_iff_eq, beq_iff_eq]
    exact ⟨fun h => BitVec.eq_of_toNat_eq (by omega), fun h => by rw [h]⟩
  simp only [U64, binOp_eql, bne, h]
theorem eql_U64_r (t : TypeId) (x : BitVec 64) (b : Int) (hb : 0 ≤ b ∧ b < 18446744073709551616) : binOp .eql t (U64 x) (.int .u64 b) = pure (.bool (x == BitVec.ofNat 64 b.toNat)) := by rw [U64_raw b hb]; exact eql_U64 t _ _
theorem eql_U64_l (t : TypeId) (x : BitVec 64) (b : Int) (hb : 0 ≤ b ∧ b < 18446744073709551616) : binOp .eql t (.int .u64 b) (U64 x) = pure (.bool (BitVec.ofNat 64 b.toNat == x)) := by rw [U64_raw b hb]; exact eql_U64 t _ _
theorem neq_U64 (t : TypeId) (x y : BitVec 64) : binOp .neq t (U64 x) (U64 y) = pure (.bool (x != y)) := by
  have h : ((x.toNat : Int) == (y.toNat : Int)) = (x == y) := by
    rw [Bool.eq_iff_iff, beq_iff_eq, beq_iff_eq]
    exact ⟨fun h => BitVec.eq_of_toNat_eq (by omega), fun h => by rw [h]⟩
  simp only [U64, binOp_neq, bne, h]
theorem neq_U64_r (t : TypeId) (x : BitVec 64) (b : Int) (hb : 0 ≤ b ∧ b < 18446744073709551616) : binOp .neq t (U64 x) (.int .u64 b) = pure (.bool (x != BitVec.ofNat 64 b.toNat)) := by rw [U64_raw b hb]; exact neq_U64 t _ _
theorem neq_U64_l (t : TypeId) (x : BitVec 64) (b : Int) (hb : 0 ≤ b ∧ b < 18446744073709551616) : binOp .neq t (.int .u64 b) (U64 x) = pure (.bool (BitVec.ofNat 64 b.toNat != x)) := by rw [U64_raw b hb]; exact neq_U64 t _ _
theorem lss_U64 (t : TypeId) (x y : BitVec 64) : binOp .lss t (U64 x) (U64 y) = pure (.bool (decide (x.toNat < y.toNat))) := by simp only [U64, binOp_lss, GT.gt, GE.ge, Int.ofNat_lt, Int.ofNat_le]
theorem lss_U64_r (t : TypeId) (x : BitVec 64) (b : Int) (hb : 0 ≤ b) : binOp .lss t (U64 x) (.int .u64 b) = pure (.bool (decide (x.toNat < b.toNat))) := by
  obtain ⟨n, rfl⟩ := Int.eq_ofNat_of_zero_le hb
  simp only [U64, binOp_lss, GT.gt, GE.ge, Int.ofNat_lt, Int.ofNat_le, Int.toNat_natCast]
theorem lss_U64_l (t : TypeId) (x : BitVec 64) (b : Int) (hb : 0 ≤ b) : binOp .lss t (.int .u64 b) (U64 x) = pure (.bool (decide (b.toNat < x.toNat))) := by
  obtain ⟨n, rfl⟩ := Int.eq_ofNat_of_zero_le hb
  simp only [U64, binOp_lss, GT.gt, GE.ge, Int.ofNat_lt, Int.ofNat_le, Int.toNat_natCast]
theorem leq_U64 (t : TypeId) (x y : BitVec 64) : binOp .leq t (U64 x) (U64 y) = pure (.bool (decide (x.toNat ≤ y.toNat))) := by simp only [U64, binOp_leq, GT.gt, GE.ge, Int.ofNat_lt, Int.ofNat_le]
theorem leq_U64_r (t : TypeId) (x : BitVec 64) (b : Int) (hb : 0 ≤ b) : binOp .leq t (U64 x) (.int .u64 b) = pure (.bool (decide (x.toNat ≤ b.toNat))) := by
  obtain ⟨n, rfl⟩ := Int.eq_ofNat_of_zero_le hb
  simp only [U64, binOp_leq, GT.gt, GE.ge, Int.ofNat_lt, Int.ofNat_le, Int.toNat_natCast]
theorem leq_U64_l (t : TypeId) (x : BitVec 64) (b : Int) (hb : 0 ≤ b) : binOp .leq t (.int .u64 b) (U64 x) = pure (.bool (decide (b.toNat ≤ x.toNat))) := by
  obtain ⟨n, rfl⟩ := Int.eq_ofNat_of_zero_le hb
  simp only [U64, binOp_leq, GT.gt, GE.ge, Int.ofNat_lt, Int.ofNat_le, Int.toNat_natCast]
theorem gtr_U64 (t : TypeId) (x y : BitVec 64) : binOp .gtr t (U64 x) (U64 y) = pure (.bool (decide (y.toNat < x.toNat))) := by simp only [U64, binOp_gtr, GT.gt, GE.ge, Int.ofNat_lt, Int.ofNat_le]
theorem gtr_U64_r (t : TypeId) (x : BitVec 64) (b : Int) (hb : 0 ≤ b) : binOp .gtr t (U64 x) (.int .u64 b) = pure (.bool (decide (b.toNat < x.toNat))) := by
  obtain ⟨n, rfl⟩ := Int.eq_ofNat_of_zero_le hb
  simp only [U64, binOp_gtr, GT.gt, GE.ge, Int.ofNat_lt, Int.ofNat_le, Int.toNat_natCast]
theorem gtr_U64_l (t : TypeId) (x : BitVec 64) (b : Int) (hb : 0 ≤ b) : binOp .gtr t (.int .u64 b) (U64 x) = pure (.bool (decide (x.toNat < b.toNat))) := by
  obtain ⟨n, rfl⟩ := Int.eq_ofNat_of_zero_le hb
  simp only [U64, binOp_gtr, GT.gt, GE.ge, Int.ofNat_lt, Int.ofNat_le, Int.toNat_natCast]
theorem geq_U64 (t : TypeId) (x y : BitVec 64) : binOp .geq t (U64 x) (U64 y) = pure (.bool (decide (y.toNat ≤ x.toNat))) := by simp only [U64, binOp_geq, GT.gt, GE.ge, Int.ofNat_lt, Int.ofNat_le]
theorem geq_U64_r (t : TypeId) (x : BitVec 64) (b : Int) (hb : 0 ≤ b) : binOp .geq t (U64 x) (.int .u64 b) = pure (.bool (decide (b.toNat ≤ x.toNat))) := by
  obtain ⟨n, rfl⟩ := Int.eq_ofNat_of_zero_le hb
  simp only [U64, binOp_geq, GT.gt, GE.ge, Int.ofNat_lt, Int.ofNat_le, Int.toNat_natCast]
theorem geq_U64_l (t : TypeId) (x : BitVec 64) (b : Int) (hb : 0 ≤ b) : binOp .geq t (.int .u64 b) (U64 x) = pure (.bool (decide (x.toNat ≤ b.toNat))) := by
  obtain ⟨n, rfl⟩ := Int.eq_ofNat_of_zero_le hb
  simp only [U64, binOp_geq, GT.gt, GE.ge, Int.ofNat_lt, Int.ofNat_le, Int.toNat_natCast]
theorem guard_eql_U64 (t : TypeId) (p q : Operand) (x : BitVec 64) (v : Value) : eqGuard .eql t p q (U64 x) v = pure () := by
  simp only [eqGuard, U64]; rfl
theorem guard_eql_U64_l (t : TypeId) (p q : Operand) (y : BitVec 64) (k : IntKind) (a : Int) : eqGuard .eql t p q (.int k a) (U64 y) = pure () := by
  simp only [eqGuard, U64]; rfl
theorem guard_neq_U64 (t : TypeId) (p q : Operand) (x : BitVec 64) (v : Value) : eqGuard .neq t p q (U64 x) v = pure () := by
  simp only [eqGuard, U64]; rfl
theorem guard_neq_U64_l (t : TypeId) (p q : Operand) (y : BitVec 64) (k : IntKind) (a : Int) : eqGuard .neq t p q (.int k a) (U64 y) = pure () := by
  simp only [eqGuard, U64]; rfl
theorem shl_U64 (t : TypeId) (x : BitVec 64) (yk : IntKind) (c : Int) (hc : 0 ≤ c) : binOp .shl t (U64 x) (.int yk c) = pure (U64 (x <<< c.toNat)) := by
  have h : IntKind.u64.wrap ((x.toNat : Int) * 2 ^ min c.toNat 64) = ((x <<< c.toNat).toNat : Int) := by
    rw [wrap_u64', BitVec.toNat_shiftLeft, Nat.shiftLeft_eq]
    by_cases hh : c.toNat ≤ 64
    · rw [Nat.min_eq_left hh]
      show _ = ((x.toNat * 2 ^ c.toNat % 18446744073709551616 : Nat) : Int)
      simp only [Int.natCast_emod, Int.natCast_mul, Int.natCast_pow, Int.cast_ofNat_Int]
    · rw [Nat.min_eq_right (by omega)]
      have e : 2 ^ c.toNat = 2 ^ 64 * 2 ^ (c.toNat - 64) := by rw [← Nat.pow_add]; congr 1; omega
      have e2 : x.toNat * 2 ^ c.toNat % 2 ^ 64 = 0 := by
        rw [e, Nat.mul_left_comm]; exact Nat.mul_mod_right _ _
      rw [e2]
      exact Int.mul_emod_left _ _
  show Op.shift .shl .u64 _ yk c = _
  unfold Op.shift
  rw [if_neg (by omega)]
  simp only [U64, IntKind.bits, h]
theorem shr_U64 (t : TypeId) (x : BitVec 64) (yk : IntKind) (c : Int) (hc : 0 ≤ c) : binOp .shr t (U64 x) (.int yk c) = pure (U64 (x >>> c.toNat)) := by
  have h : Int.fdiv (x.toNat : Int) (2 ^ min c.toNat 64) = ((x >>> c.toNat).toNat : Int) := by
    rw [Int.fdiv_eq_ediv_of_nonneg _ (Int.pow_nonneg (by decide)), BitVec.toNat_ushiftRight, Nat.shiftRight_eq_div_pow]
    by_cases hh : c.toNat ≤ 64
    · rw [Nat.min_eq_left hh]
      simp only [Int.natCast_ediv, Int.natCast_pow, Int.cast_ofNat_Int]
    · rw [Nat.min_eq_right (by omega)]
      have hx := x.isLt
      have e : 2 ^ 64 ≤ 2 ^ c.toNat := Nat.pow_le_pow_right (by decide) (by omega)
      rw [Nat.div_eq_of_lt (by omega)]
      show ((x.toNat : Nat) : Int) / ((2 ^ 64 : Nat) : Int) = 0
      rw [← Int.natCast_ediv, Nat.div_eq_of_lt hx]
      rfl
  show Op.shift .shr .u64 _ yk c = _
  unfold Op.shift
  rw [if_neg (by omega)]
  simp only [U64, IntKind.bits, h]
theorem not_U64 (x : BitVec 64) : Op.unary .xor (U64 x) = pure (U64 (~~~x)) := by
  have e : BitVec.ofInt 64 (IntKind.u64.max) = BitVec.allOnes 64 := by decide
  have h : BitVec.ofInt 64 (IntKind.u64.max) ^^^ x = ~~~x := by rw [e, BitVec.allOnes_xor]
  simp only [U64, unary_xor, IntKind.signed, Op.intBits, IntKind.bits, Bool.false_eq_true, if_false, ofInt_u64, h, wrap_u64]; rfl
theorem store_U64 (P : Program) (w : World) (a : Addr) (m : Mode) (x : BitVec 64) : (store a (U64 x) m).run P w = stored P w a (U64 x) m := run_store P w a _ m rfl
theorem indexAt_U64 (t : TypeId) (b : Value) (x : BitVec 64) : Instr.indexAt t b (U64 x) = Instr.indexAt t b (.int .u64 (idx x : Int)) := rfl
theorem index_U64 (t : TypeId) (b : Value) (x : BitVec 64) : Instr.index t b (U64 x) = Instr.index t b (.int .u64 (idx x : Int)) := rfl
theorem conv_U64_U8 (P : Program) (w : World) (src dst : TypeId) (x : BitVec 64) (hs : (P.underlying src).isSome = true) (hd : P.underlying dst = some (.int .u8)) : (convert src dst (U64 x)).run P w = .ok (U8 (x.setWidth 8)) w := by
  obtain ⟨d, hd'⟩ := Option.isSome_iff_exists.mp hs
  have h : IntKind.u8.wrap (x.toNat : Int) = ((x.setWidth 8).toNat : Int) := by
    rw [wrap_u8', BitVec.toNat_setWidth]
    show _ = ((x.toNat % 256 : Nat) : Int)
    omega
  simp [convert, run_underlying hd', run_underlying hd, Conv.intToInt, U64, U8, h]
theorem conv_U64_U32 (P : Program) (w : World) (src dst : TypeId) (x : BitVec 64) (hs : (P.underlying src).isSome = true) (hd : P.underlying dst = some (.int .u32)) : (convert src dst (U64 x)).run P w = .ok (U32 (x.setWidth 32)) w := by
  obtain ⟨d, hd'⟩ := Option.isSome_iff_exists.mp hs
  have h : IntKind.u32.wrap (x.toNat : Int) = ((x.setWidth 32).toNat : Int) := by
    rw [wrap_u32', BitVec.toNat_setWidth]
    show _ = ((x.toNat % 4294967296 : Nat) : Int)
    omega
  simp [convert, run_underlying hd', run_underlying hd, Conv.intToInt, U64, U32, h]
theorem conv_int_U8 (P : Program) (w : World) (src dst : TypeId) (n : Int) (hs : (P.underlying src).isSome = true) (hd : P.underlying dst = some (.int .u8)) : (convert src dst (.int .i64 n)).run P w = .ok (U8 (BitVec.ofInt 8 n)) w := by
  obtain ⟨d, hd'⟩ := Option.isSome_iff_exists.mp hs
  simp [convert, run_underlying hd', run_underlying hd, Conv.intToInt, U8, wrap_u8]
theorem conv_word_U8 (P : Program) (w : World) (src dst : TypeId) (n : Int) (hs : (P.underlying src).isSome = true) (hd : P.underlying dst = some (.int .u8)) : (convert src dst (.int .u64 n)).run P w = .ok (U8 (BitVec.ofInt 8 n)) w := by
  obtain ⟨d, hd'⟩ := Option.isSome_iff_exists.mp hs
  simp [convert, run_underlying hd', run_underlying hd, Conv.intToInt, U8, wrap_u8]

attribute [go_sem] add_U8 add_U8_r add_U8_l sub_U8 sub_U8_r sub_U8_l mul_U8 mul_U8_r mul_U8_l and_U8 and_U8_r and_U8_l
attribute [go_sem] or_U8 or_U8_r or_U8_l xor_U8 xor_U8_r xor_U8_l andNot_U8 andNot_U8_r andNot_U8_l eql_U8 eql_U8_r eql_U8_l
attribute [go_sem] neq_U8 neq_U8_r neq_U8_l lss_U8 lss_U8_r lss_U8_l leq_U8 leq_U8_r leq_U8_l gtr_U8 gtr_U8_r gtr_U8_l
attribute [go_sem] geq_U8 geq_U8_r geq_U8_l guard_eql_U8 guard_eql_U8_l guard_neq_U8 guard_neq_U8_l shl_U8 shr_U8 not_U8 store_U8 U8.cellsm
attribute [go_sem] indexAt_U8 index_U8 conv_U8_U32 conv_U8_U64 conv_U8_int add_U32 add_U32_r add_U32_l sub_U32 sub_U32_r sub_U32_l mul_U32
attribute [go_sem] mul_U32_r mul_U32_l and_U32 and_U32_r and_U32_l or_U32 or_U32_r or_U32_l xor_U32 xor_U32_r xor_U32_l andNot_U32
attribute [go_sem] andNot_U32_r andNot_U32_l eql_U32 eql_U32_r eql_U32_l neq_U32 neq_U32_r neq_U32_l lss_U32 lss_U32_r lss_U32_l leq_U32
attribute [go_sem] leq_U32_r leq_U32_l gtr_U32 gtr_U32_r gtr_U32_l geq_U32 geq_U32_r geq_U32_l guard_eql_U32 guard_eql_U32_l guard_neq_U32 guard_neq_U32_l
attribute [go_sem] shl_U32 shr_U32 not_U32 store_U32 U32.cellsm indexAt_U32 index_U32 conv_U32_U8 conv_U32_U64 conv_U32_int add_U64 add_U64_r
attribute [go_sem] add_U64_l sub_U64 sub_U64_r sub_U64_l mul_U64 mul_U64_r mul_U64_l and_U64 and_U64_r and_U64_l or_U64 or_U64_r
attribute [go_sem] or_U64_l xor_U64 xor_U64_r xor_U64_l andNot_U64 andNot_U64_r andNot_U64_l eql_U64 eql_U64_r eql_U64_l neq_U64 neq_U64_r
attribute [go_sem] neq_U64_l lss_U64 lss_U64_r lss_U64_l leq_U64 leq_U64_r leq_U64_l gtr_U64 gtr_U64_r gtr_U64_l geq_U64 geq_U64_r
attribute [go_sem] geq_U64_l guard_eql_U64 guard_eql_U64_l guard_neq_U64 guard_neq_U64_l shl_U64 shr_U64 not_U64 store_U64 U64.cellsm indexAt_U64 index_U64
attribute [go_sem] conv_U64_U8 conv_U64_U32 conv_int_U8 conv_word_U8 fold_u8 fold_u32 fold_u64
end Go.Proofs.YtdmbfimjbmfbaaaGreatDoor
