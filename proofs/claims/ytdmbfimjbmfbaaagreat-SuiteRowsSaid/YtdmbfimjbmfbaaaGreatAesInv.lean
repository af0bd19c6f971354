/-
  AES: the reference's substitution is that of the table; the way back. No conditions.
-/
import Derived.Test.YtdmbfimjbmfbaaaGreatAesField
namespace Go.Proofs.YtdmbfimjbmfbaaaGreat
namespace Aes
/-- the way back, as one number of 256 bytes -/
def bkN : Nat := 0x7d0c2155631469e126d677ba7e042b17619953833cbbebc8b0f52aae4d3be0a0ef9cc9939f7ae52d0d4ab519a97f51605fec8027591012b131c7078833a8dd1ff45acd78fec0db9a2079d2c64b3e56fc1bbe18aa0e62b76f89c5291d711af1476edf751ce837f9e28535ade72274ac9673e6b4f0cecff297eadc674f4111913a6b8a130103bdafc1020f3fca8f1e2cd00645b3b80558e4f70ad3bc8c00abd890849d8da75746155edab9edfd5048706c92b6655dcc5ca4d41698688664f6f87225d18b6d49a25b76b224d92866a12e084ec3fa420b954cee3d23c2a632947b54cbe9dec444438e3487ff2f9b8239e37cfbd7f3819ea340bf38a53630d56a0952
def bk (i : Nat) : BitVec 8 := BitVec.ofNat 8 (bkN >>> (8 * i))
theorem bk_sb_all : ∀ n, n < 256 → bk (sb n).toNat = BitVec.ofNat 8 n := by decide +kernel
theorem bk_sb (b : BitVec 8) : bk (sb b.toNat).toNat = b := by rw [bk_sb_all _ b.isLt]; simp
/-- powers -/
def pw (b : BitVec 8) : Nat → BitVec 8
  | 0 => 1#8
  | k + 1 => mul (pw b k) b
end Aes
end Go.Proofs.YtdmbfimjbmfbaaaGreat
