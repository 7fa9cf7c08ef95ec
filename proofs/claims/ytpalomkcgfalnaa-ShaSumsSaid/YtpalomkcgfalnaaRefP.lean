/- Plain: a word of 32 bits kept in 64, as the reference keeps it. -/
import Derived.Test.YtpalomkcgfalnaaShl
set_option linter.unusedVariables false
set_option linter.unusedSimpArgs false
namespace Go.Proofs.Ytpalomkcgfalnaa
namespace Sh
theorem toNat_rotl32 (x : UInt32) (s : Nat) (h0 : 0 < s) (h : s < 32) : (rotl32 x (-(s : Int))).toNat = (x.toNat <<< (32 - s)) % 2 ^ 32 ||| x.toNat >>> s := by
  unfold rotl32
  have e1 : (32 + -(s : Int)).toNat = 32 - s := by omega
  have e2 : (- -(s : Int)).toNat = s := by omega
  rw [e1, e2, UInt32.toNat_or, UInt32.toNat_shiftLeft, UInt32.toNat_shiftRight, UInt32.toNat_ofNat', UInt32.toNat_ofNat']
  have e3 : (32 - s) % 2 ^ 32 % 32 = 32 - s := by omega
  have e4 : s % 2 ^ 32 % 32 = s := by omega
  rw [e3, e4]
theorem turn32_eq (x : UInt32) (s : Nat) (h0 : 0 < s) (h : s < 32) :
    (x.toUInt64 >>> UInt64.ofNat s ||| x.toUInt64 <<< UInt64.ofNat (32 - s)) % 4294967296 = (rotl32 x (-(s : Int))).toUInt64 := by
  apply UInt64.toNat_inj.1
  have hx : x.toNat < 2 ^ 32 := UInt32.toNat_lt x
  rw [UInt32.toNat_toUInt64, toNat_rotl32 x s h0 h, UInt64.toNat_mod, UInt64.toNat_or, UInt64.toNat_shiftLeft, UInt64.toNat_shiftRight, UInt32.toNat_toUInt64, UInt64.toNat_ofNat', UInt64.toNat_ofNat']
  have e3 : (32 - s) % 2 ^ 64 % 64 = 32 - s := by omega
  have e4 : s % 2 ^ 64 % 64 = s := by omega
  rw [e3, e4]
  show (_ ||| _) % 2 ^ 32 = _
  rw [Nat.or_mod_two_pow, Nat.mod_mod_of_dvd _ (Nat.pow_dvd_pow 2 (by decide)), Nat.or_comm]
  congr 1
  exact Nat.mod_eq_of_lt (Nat.lt_of_le_of_lt (Nat.shiftRight_le _ _) hx)
theorem toNat_rotl64 (x : UInt64) (s : Nat) (h0 : 0 < s) (h : s < 64) : x >>> UInt64.ofNat s ||| x <<< UInt64.ofNat (64 - s) = rotl64 x (-(s : Int)) := by
  unfold rotl64
  have e1 : (64 + -(s : Int)).toNat = 64 - s := by omega
  have e2 : (- -(s : Int)).toNat = s := by omega
  rw [e1, e2]
  apply UInt64.toNat_inj.1
  rw [UInt64.toNat_or, UInt64.toNat_or, Nat.or_comm]
theorem cut32_eq (x : UInt64) : x % 4294967296 = x.toUInt32.toUInt64 := by
  apply UInt64.toNat_inj.1
  rw [UInt64.toNat_mod, UInt32.toNat_toUInt64, UInt64.toNat_toUInt32]
  rfl
theorem low_add (a b : UInt64) : (a + b).toUInt32 = a.toUInt32 + b.toUInt32 := by simp
theorem low_up (x : UInt32) : x.toUInt64.toUInt32 = x := by simp
theorem up_xor (a b : UInt32) : a.toUInt64 ^^^ b.toUInt64 = (a ^^^ b).toUInt64 := by simp
theorem up_and (a b : UInt32) : a.toUInt64 &&& b.toUInt64 = (a &&& b).toUInt64 := by simp
theorem up_or (a b : UInt32) : a.toUInt64 ||| b.toUInt64 = (a ||| b).toUInt64 := by simp
theorem up_not (a : UInt32) : (~~~a.toUInt64) % 4294967296 = (~~~a).toUInt64 := by
  rw [cut32_eq]
  congr 1
  simp
theorem up_shr (a : UInt32) (s : Nat) (h : s < 32) : a.toUInt64 >>> UInt64.ofNat s = (a >>> UInt32.ofNat s).toUInt64 := by
  apply UInt64.toNat_inj.1
  rw [UInt64.toNat_shiftRight, UInt32.toNat_toUInt64, UInt32.toNat_toUInt64, UInt32.toNat_shiftRight, UInt64.toNat_ofNat', UInt32.toNat_ofNat']
  congr 1
  omega

theorem ch32 (e f g : UInt32) : e &&& f ||| ~~~e &&& g = e &&& f ^^^ ~~~e &&& g := by
  apply UInt32.toBitVec_inj.1
  simp only [UInt32.toBitVec_or, UInt32.toBitVec_and, UInt32.toBitVec_xor, UInt32.toBitVec_not]
  ext i hi
  simp only [BitVec.getElem_or, BitVec.getElem_and, BitVec.getElem_xor, BitVec.getElem_not]
  cases e.toBitVec[i] <;> simp
theorem maj32 (a b c : UInt32) : a &&& b ||| a &&& c ||| b &&& c = a &&& b ^^^ a &&& c ^^^ b &&& c := by
  apply UInt32.toBitVec_inj.1
  simp only [UInt32.toBitVec_or, UInt32.toBitVec_and, UInt32.toBitVec_xor]
  ext i hi
  simp only [BitVec.getElem_or, BitVec.getElem_and, BitVec.getElem_xor]
  cases a.toBitVec[i] <;> cases b.toBitVec[i] <;> cases c.toBitVec[i] <;> rfl
theorem ch64 (e f g : UInt64) : e &&& f ||| ~~~e &&& g = e &&& f ^^^ ~~~e &&& g := by
  apply UInt64.toBitVec_inj.1
  simp only [UInt64.toBitVec_or, UInt64.toBitVec_and, UInt64.toBitVec_xor, UInt64.toBitVec_not]
  ext i hi
  simp only [BitVec.getElem_or, BitVec.getElem_and, BitVec.getElem_xor, BitVec.getElem_not]
  cases e.toBitVec[i] <;> simp
theorem maj64 (a b c : UInt64) : a &&& b ||| a &&& c ||| b &&& c = a &&& b ^^^ a &&& c ^^^ b &&& c := by
  apply UInt64.toBitVec_inj.1
  simp only [UInt64.toBitVec_or, UInt64.toBitVec_and, UInt64.toBitVec_xor]
  ext i hi
  simp only [BitVec.getElem_or, BitVec.getElem_and, BitVec.getElem_xor]
  cases a.toBitVec[i] <;> cases b.toBitVec[i] <;> cases c.toBitVec[i] <;> rfl
theorem word64_step (m : UInt64) (x : UInt8) : m * (256 : UInt64) + x.toUInt64 = m <<< (8 : UInt64) ||| x.toUInt64 := by
  apply UInt64.toNat_inj.1
  have hx : x.toNat < 2 ^ 8 := UInt8.toNat_lt x
  rw [UInt64.toNat_add, UInt64.toNat_mul, UInt64.toNat_or, UInt64.toNat_shiftLeft, UInt8.toNat_toUInt64]
  show (m.toNat * 256 % 2 ^ 64 + x.toNat) % 2 ^ 64 = m.toNat <<< 8 % 2 ^ 64 ||| x.toNat
  rw [Nat.shiftLeft_eq]
  have h2 : m.toNat * 2 ^ 8 % 2 ^ 64 = (m.toNat % 2 ^ 56) * 2 ^ 8 := by omega
  rw [h2, Nat.mul_comm (m.toNat % 2 ^ 56), ← Nat.two_pow_add_eq_or_of_lt hx]
  omega
end Sh
end Go.Proofs.Ytpalomkcgfalnaa
