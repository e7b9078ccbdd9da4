/- Facts on numbers as bits. -/
import Derived.Test.YtjdpfblmhahfkaaVB
set_option linter.unusedVariables false
set_option linter.unusedSimpArgs false
namespace Go.V

theorem ofIntNat {w : Nat} {x : Nat} (h : x < 2 ^ w) : (BitVec.ofInt w (x : Int)).toNat = x := by
  rw [BitVec.toNat_ofInt]
  have : ((x : Int) % ((2 ^ w : Nat) : Int)) = (x : Int) := Int.emod_eq_of_lt (by omega) (by exact_mod_cast h)
  rw [this]; rfl

theorem wrapNat {k : IntKind} (hs : k.signed = false) {n : Nat} (h : n < 2 ^ k.bits) : k.wrap (n : Int) = n :=
  wrapU hs (by omega) (by exact_mod_cast h)

theorem bitsOr {k : IntKind} (hs : k.signed = false) {x y : Nat} (hx : x < 2 ^ k.bits) (hy : y < 2 ^ k.bits) : bitsI .or k (x : Int) (y : Int) = ((x ||| y : Nat) : Int) := by
  simp only [bitsI, BitVec.toNat_or, ofIntNat hx, ofIntNat hy]
  exact wrapNat hs (Nat.or_lt_two_pow hx hy)
theorem bitsAnd {k : IntKind} (hs : k.signed = false) {x y : Nat} (hx : x < 2 ^ k.bits) (hy : y < 2 ^ k.bits) : bitsI .and k (x : Int) (y : Int) = ((x &&& y : Nat) : Int) := by
  simp only [bitsI, BitVec.toNat_and, ofIntNat hx, ofIntNat hy]
  exact wrapNat hs (Nat.and_lt_two_pow _ hy)
theorem bitsXor {k : IntKind} (hs : k.signed = false) {x y : Nat} (hx : x < 2 ^ k.bits) (hy : y < 2 ^ k.bits) : bitsI .xor k (x : Int) (y : Int) = ((x ^^^ y : Nat) : Int) := by
  simp only [bitsI, BitVec.toNat_xor, ofIntNat hx, ofIntNat hy]
  exact wrapNat hs (Nat.xor_lt_two_pow hx hy)

theorem or128 {x : Nat} (h : x < 256) : bitsI .or .u8 (x : Int) 128 = ((x % 128 + 128 : Nat) : Int) := by
  have : ∀ x : _root_.Fin 256, (x.1 ||| 128) = x.1 % 128 + 128 := by decide +kernel
  rw [show (128 : Int) = ((128 : Nat) : Int) from rfl, bitsOr rfl (by simpa [IntKind.bits] using h) (by decide)]
  rw [this ⟨x, h⟩]
theorem andNot128 {x : Nat} (h : x < 256) : bitsI .andNot .u8 (x : Int) 128 = ((x % 128 : Nat) : Int) := by
  have h2 : ∀ x : _root_.Fin 256, (BitVec.ofNat 8 x.1 &&& ~~~ BitVec.ofInt 8 128).toNat = x.1 % 128 := by decide +kernel
  have h3 : BitVec.ofInt 8 (x : Int) = BitVec.ofNat 8 x := by
    apply BitVec.eq_of_toNat_eq
    rw [ofIntNat (by simpa using h)]
    simp; omega
  have h4 : (BitVec.ofNat 8 x &&& ~~~ BitVec.ofInt 8 128).toNat = x % 128 := h2 ⟨x, h⟩
  show IntKind.u8.wrap (((BitVec.ofInt 8 (x : Int)) &&& ~~~ BitVec.ofInt 8 128).toNat : Int) = _
  rw [h3, h4]
  exact wrapNat rfl (by simp [IntKind.bits]; omega)

/-- A piece put above what is there. -/
theorem or_above {u d i : Nat} (h : u < 2 ^ i) : u ||| d * 2 ^ i = u + d * 2 ^ i := by
  rw [Nat.or_comm, Nat.mul_comm, ← Nat.two_pow_add_eq_or_of_lt h, Nat.add_comm]

theorem xor_ones {x : Nat} (h : x < 2 ^ 64) : x ^^^ (2 ^ 64 - 1) = 2 ^ 64 - 1 - x := by
  have h1 : ((BitVec.ofNat 64 x) ^^^ BitVec.allOnes 64).toNat = 2 ^ 64 - 1 - x := by
    rw [BitVec.xor_allOnes, BitVec.toNat_not]
    simp [Nat.mod_eq_of_lt h]
  rw [BitVec.toNat_xor, BitVec.toNat_allOnes] at h1
  simpa [Nat.mod_eq_of_lt h] using h1
end Go.V
