/-
  AES: the reference's substitution is that of the table; the way back. No conditions.
-/
import Derived.Test.YtkjdejadambffaaDoorAesField
namespace Go.Proofs.YtkjdejadambffaaDoor
namespace Aes
/-- the way back, as one number of 256 bytes -/
def bkN : Nat := 0x7d0c2155631469e126d677ba7e042b17619953833cbbebc8b0f52aae4d3be0a0ef9cc9939f7ae52d0d4ab519a97f51605fec8027591012b131c7078833a8dd1ff45acd78fec0db9a2079d2c64b3e56fc1bbe18aa0e62b76f89c5291d711af1476edf751ce837f9e28535ade72274ac9673e6b4f0cecff297eadc674f4111913a6b8a130103bdafc1020f3fca8f1e2cd00645b3b80558e4f70ad3bc8c00abd890849d8da75746155edab9edfd5048706c92b6655dcc5ca4d41698688664f6f87225d18b6d49a25b76b224d92866a12e084ec3fa420b954cee3d23c2a632947b54cbe9dec444438e3487ff2f9b8239e37cfbd7f3819ea340bf38a53630d56a0952
def bk (i : Nat) : BitVec 8 := BitVec.ofNat 8 (bkN >>> (8 * i))
theorem bk_sb_all : ∀ n, n < 256 → bk (sb n).toNat = BitVec.ofNat 8 n := by decide +kernel
theorem sb_bk_all : ∀ n, n < 256 → sb (bk n).toNat = BitVec.ofNat 8 n := by decide +kernel
theorem bk_sb (b : BitVec 8) : bk (sb b.toNat).toNat = b := by rw [bk_sb_all _ b.isLt]; simp
theorem sb_bk (b : BitVec 8) : sb (bk b.toNat).toNat = b := by rw [sb_bk_all _ b.isLt]; simp
theorem sb_inj {a b : BitVec 8} (h : sb a.toNat = sb b.toNat) : a = b := by rw [← bk_sb a, h, bk_sb]
/-- powers -/
def pw (b : BitVec 8) : Nat → BitVec 8
  | 0 => 1#8
  | k + 1 => mul (pw b k) b
theorem pw_add (b : BitVec 8) (m : Nat) : ∀ n, pw b (m + n) = mul (pw b m) (pw b n)
  | 0 => by rw [Nat.add_zero]; exact (mul_one _).symm
  | n + 1 => by
    show mul (pw b (m + n)) b = mul (pw b m) (mul (pw b n) b)
    rw [pw_add b m n, mul_assoc]
def pwF (b : BitVec 8) : BitVec 8 :=
  let b2 := mul b b; let b4 := mul b2 b2; let b8 := mul b4 b4; let b16 := mul b8 b8; let b32 := mul b16 b16; let b64 := mul b32 b32; let b128 := mul b64 b64
  mul (mul (mul b128 b64) (mul b32 b16)) (mul (mul b8 b4) b2)
theorem pw_one (b : BitVec 8) : pw b 1 = b := by
  show mul 1#8 b = b
  rw [mul_comm]; exact mul_one b
theorem pw_254 (b : BitVec 8) : pw b 254 = pwF b := by
  have h2 : pw b 2 = mul b b := by have := pw_add b 1 1; rwa [pw_one] at this
  have h4 := pw_add b 2 2
  have h8 := pw_add b 4 4
  have h16 := pw_add b 8 8
  have h32 := pw_add b 16 16
  have h64 := pw_add b 32 32
  have h128 := pw_add b 64 64
  have e1 := pw_add b 128 64
  have e2 := pw_add b 32 16
  have e3 := pw_add b 8 4
  have e4 := pw_add b 12 2
  have e5 := pw_add b 192 48
  have e6 := pw_add b 240 14
  simp only [Nat.reduceAdd] at h4 h8 h16 h32 h64 h128 e1 e2 e3 e4 e5 e6
  rw [e6, e5, e4, e1, e2, e3, h128, h64, h32, h16, h8, h4, h2]
  rfl
def rol (x : BitVec 8) : BitVec 8 := x <<< 1 ||| x >>> 7
/-- the reference's rotations: (x, out) after k rounds -/
def rr (x : BitVec 8) : Nat → BitVec 8 × BitVec 8
  | 0 => (x, x)
  | k + 1 => (rol (rr x k).1, (rr x k).2 ^^^ rol (rr x k).1)
theorem psub_all : ∀ n, n < 256 → (rr (pwF (BitVec.ofNat 8 n)) 4).2 ^^^ 99#8 = sb n := by decide +kernel
theorem psub (b : BitVec 8) : (rr (pw b 254) 4).2 ^^^ 99#8 = sb b.toNat := by
  rw [pw_254]
  have := psub_all _ b.isLt
  rwa [BitVec.ofNat_toNat, BitVec.setWidth_eq] at this
end Aes
end Go.Proofs.YtkjdejadambffaaDoor
