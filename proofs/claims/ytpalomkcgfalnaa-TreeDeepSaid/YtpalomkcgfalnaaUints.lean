/- How the walk's arithmetic on uint8, uint32, uint64 reads as the arithmetic of UInt8, UInt32, UInt64: nothing wraps and nothing is owed. -/
import Derived.WalkKit
set_option linter.unusedVariables false
set_option linter.unusedSimpArgs false
namespace Go.Proofs.Ytpalomkcgfalnaa
open Go.RowKit
/-- The number of a byte or word, behind a name that no simp set opens. -/
theorem xorOnes (n x : Nat) (h : x < 2 ^ n) : x ^^^ (2 ^ n - 1) = 2 ^ n - (x + 1) := by
  refine Nat.eq_of_testBit_eq fun i => ?_
  rw [Nat.testBit_xor, Nat.testBit_two_pow_sub_succ h, Nat.testBit_two_pow_sub_one]
  by_cases hi : i < n
  · simp [hi]
  · have : x.testBit i = false := Nat.testBit_lt_two_pow (Nat.lt_of_lt_of_le h (Nat.pow_le_pow_right (by omega) (by omega)))
    simp [hi, this]
def n8 (x : UInt8) : Int := (x.toNat : Int)
def n32 (x : UInt32) : Int := (x.toNat : Int)
def n64 (x : UInt64) : Int := (x.toNat : Int)

theorem wrapN8 (n : Nat) : IntKind.u8.wrap (n : Int) = ((n % 256 : Nat) : Int) := by
  simp [IntKind.wrap, IntKind.bits, IntKind.signed]
theorem lt8 (x : UInt8) : x.toNat < 256 := UInt8.toNat_lt x
theorem n8_bd (x : UInt8) : 0 ≤ n8 x ∧ n8 x < 256 := by unfold n8; have := lt8 x; omega
theorem n8_inj {x y : UInt8} (h : n8 x = n8 y) : x = y := by
  unfold n8 at h; exact UInt8.toNat_inj.1 (by omega)
section
variable (x y : UInt8)
@[go_sem ↓ high] theorem and8 : Op.intBits .and .u8 (n8 x) (n8 y) = pure (.int .u8 (n8 (x &&& y))) := by
  unfold n8
  have h := u8_and_nat x.toNat y.toNat (lt8 x) (lt8 y)
  rw [UInt8.toNat_and]; exact congrArg (fun n => pure (Value.int .u8 n)) h
@[go_sem ↓ high] theorem or8 : Op.intBits .or .u8 (n8 x) (n8 y) = pure (.int .u8 (n8 (x ||| y))) := by
  unfold n8
  have h := u8_or_nat x.toNat y.toNat (lt8 x) (lt8 y)
  rw [UInt8.toNat_or]; exact congrArg (fun n => pure (Value.int .u8 n)) h
@[go_sem ↓ high] theorem xor8 : Op.intBits .xor .u8 (n8 x) (n8 y) = pure (.int .u8 (n8 (x ^^^ y))) := by
  unfold n8
  have h := u8_xor_nat x.toNat y.toNat (lt8 x) (lt8 y)
  rw [UInt8.toNat_xor]; exact congrArg (fun n => pure (Value.int .u8 n)) h
@[go_sem ↓ high] theorem add8 : Op.intArith .add .u8 (n8 x) (n8 y) = pure (.int .u8 (n8 (x + y))) := by
  unfold Op.intArith n8
  rw [show (x.toNat : Int) + (y.toNat : Int) = ((x.toNat + y.toNat : Nat) : Int) from by omega]
  simp only [wrapN8]
  rw [UInt8.toNat_add]
@[go_sem ↓ high] theorem mul8 : Op.intArith .mul .u8 (n8 x) (n8 y) = pure (.int .u8 (n8 (x * y))) := by
  unfold Op.intArith n8
  rw [show (x.toNat : Int) * (y.toNat : Int) = ((x.toNat * y.toNat : Nat) : Int) from by simp]
  simp only [wrapN8]
  rw [UInt8.toNat_mul]
@[go_sem high] theorem not8 : Op.unary .xor (.int .u8 (n8 x)) = pure (.int .u8 (n8 (~~~x))) := by
  have h := u8_xor_nat 255 x.toNat (by decide) (lt8 x)
  have e : Op.unary .xor (.int .u8 (x.toNat : Int)) = pure (.int .u8 (bits .xor .u8 (255 : Nat) (x.toNat : Int))) := rfl
  unfold n8
  rw [e, h, UInt8.toNat_not, Nat.xor_comm]
  congr 3
  have hl := lt8 x
  have e2 : x.toNat ^^^ 255 = 256 - (x.toNat + 1) := xorOnes 8 x.toNat hl
  rw [show UInt8.size = 256 from rfl]
  omega
@[go_sem ↓ high] theorem shrA8 (k : IntKind) (s : Nat) (hs : s < 8) : Op.shift .shr .u8 (n8 x) k (s : Int) = pure (.int .u8 (n8 (x >>> UInt8.ofNat s))) := by
  unfold Op.shift n8
  rw [if_neg (by omega)]
  have hm : min s 8 = s := by omega
  have hsz : (UInt8.ofNat s).toNat % 8 = s := by rw [UInt8.toNat_ofNat']; omega
  simp only [IntKind.bits, Int.toNat_natCast, hm, UInt8.toNat_shiftRight, hsz, Nat.shiftRight_eq_div_pow]
  congr 2
  rw [show ((2 : Int) ^ s) = ((2 ^ s : Nat) : Int) from by simp]
  rw [Int.fdiv_eq_ediv_of_nonneg _ (Int.natCast_nonneg _)]
  rw [Int.natCast_ediv]
@[go_sem ↓ high] theorem shlA8 (k : IntKind) (s : Nat) (hs : s < 8) : Op.shift .shl .u8 (n8 x) k (s : Int) = pure (.int .u8 (n8 (x <<< UInt8.ofNat s))) := by
  unfold Op.shift n8
  rw [if_neg (by omega)]
  have hm : min s 8 = s := by omega
  have hsz : (UInt8.ofNat s).toNat % 8 = s := by rw [UInt8.toNat_ofNat']; omega
  simp only [IntKind.bits, Int.toNat_natCast, hm, UInt8.toNat_shiftLeft, hsz, Nat.shiftLeft_eq]
  rw [show (x.toNat : Int) * ((2 : Int) ^ s) = ((x.toNat * 2 ^ s : Nat) : Int) from by simp]
  rw [wrapN8]
theorem n8_beq : (n8 x == n8 y) = (x == y) := by
  rw [Bool.eq_iff_iff]; simp only [beq_iff_eq]
  exact ⟨n8_inj, fun h => by rw [h]⟩
theorem n8_bne : (n8 x != n8 y) = (x != y) := by simp only [bne, n8_beq]
end
theorem wrapN32 (n : Nat) : IntKind.u32.wrap (n : Int) = ((n % 4294967296 : Nat) : Int) := by
  simp [IntKind.wrap, IntKind.bits, IntKind.signed]
theorem lt32 (x : UInt32) : x.toNat < 4294967296 := UInt32.toNat_lt x
theorem n32_bd (x : UInt32) : 0 ≤ n32 x ∧ n32 x < 4294967296 := by unfold n32; have := lt32 x; omega
theorem n32_inj {x y : UInt32} (h : n32 x = n32 y) : x = y := by
  unfold n32 at h; exact UInt32.toNat_inj.1 (by omega)
section
variable (x y : UInt32)
@[go_sem ↓ high] theorem and32 : Op.intBits .and .u32 (n32 x) (n32 y) = pure (.int .u32 (n32 (x &&& y))) := by
  unfold n32
  have h := u32_and_nat x.toNat y.toNat (lt32 x) (lt32 y)
  rw [UInt32.toNat_and]; exact congrArg (fun n => pure (Value.int .u32 n)) h
@[go_sem ↓ high] theorem or32 : Op.intBits .or .u32 (n32 x) (n32 y) = pure (.int .u32 (n32 (x ||| y))) := by
  unfold n32
  have h := u32_or_nat x.toNat y.toNat (lt32 x) (lt32 y)
  rw [UInt32.toNat_or]; exact congrArg (fun n => pure (Value.int .u32 n)) h
@[go_sem ↓ high] theorem xor32 : Op.intBits .xor .u32 (n32 x) (n32 y) = pure (.int .u32 (n32 (x ^^^ y))) := by
  unfold n32
  have h := u32_xor_nat x.toNat y.toNat (lt32 x) (lt32 y)
  rw [UInt32.toNat_xor]; exact congrArg (fun n => pure (Value.int .u32 n)) h
@[go_sem ↓ high] theorem add32 : Op.intArith .add .u32 (n32 x) (n32 y) = pure (.int .u32 (n32 (x + y))) := by
  unfold Op.intArith n32
  rw [show (x.toNat : Int) + (y.toNat : Int) = ((x.toNat + y.toNat : Nat) : Int) from by omega]
  simp only [wrapN32]
  rw [UInt32.toNat_add]
@[go_sem ↓ high] theorem mul32 : Op.intArith .mul .u32 (n32 x) (n32 y) = pure (.int .u32 (n32 (x * y))) := by
  unfold Op.intArith n32
  rw [show (x.toNat : Int) * (y.toNat : Int) = ((x.toNat * y.toNat : Nat) : Int) from by simp]
  simp only [wrapN32]
  rw [UInt32.toNat_mul]
@[go_sem high] theorem not32 : Op.unary .xor (.int .u32 (n32 x)) = pure (.int .u32 (n32 (~~~x))) := by
  have h := u32_xor_nat 4294967295 x.toNat (by decide) (lt32 x)
  have e : Op.unary .xor (.int .u32 (x.toNat : Int)) = pure (.int .u32 (bits .xor .u32 (4294967295 : Nat) (x.toNat : Int))) := rfl
  unfold n32
  rw [e, h, UInt32.toNat_not, Nat.xor_comm]
  congr 3
  have hl := lt32 x
  have e2 : x.toNat ^^^ 4294967295 = 4294967296 - (x.toNat + 1) := xorOnes 32 x.toNat hl
  rw [show UInt32.size = 4294967296 from rfl]
  omega
@[go_sem ↓ high] theorem shrA32 (k : IntKind) (s : Nat) (hs : s < 32) : Op.shift .shr .u32 (n32 x) k (s : Int) = pure (.int .u32 (n32 (x >>> UInt32.ofNat s))) := by
  unfold Op.shift n32
  rw [if_neg (by omega)]
  have hm : min s 32 = s := by omega
  have hsz : (UInt32.ofNat s).toNat % 32 = s := by rw [UInt32.toNat_ofNat']; omega
  simp only [IntKind.bits, Int.toNat_natCast, hm, UInt32.toNat_shiftRight, hsz, Nat.shiftRight_eq_div_pow]
  congr 2
  rw [show ((2 : Int) ^ s) = ((2 ^ s : Nat) : Int) from by simp]
  rw [Int.fdiv_eq_ediv_of_nonneg _ (Int.natCast_nonneg _)]
  rw [Int.natCast_ediv]
@[go_sem ↓ high] theorem shlA32 (k : IntKind) (s : Nat) (hs : s < 32) : Op.shift .shl .u32 (n32 x) k (s : Int) = pure (.int .u32 (n32 (x <<< UInt32.ofNat s))) := by
  unfold Op.shift n32
  rw [if_neg (by omega)]
  have hm : min s 32 = s := by omega
  have hsz : (UInt32.ofNat s).toNat % 32 = s := by rw [UInt32.toNat_ofNat']; omega
  simp only [IntKind.bits, Int.toNat_natCast, hm, UInt32.toNat_shiftLeft, hsz, Nat.shiftLeft_eq]
  rw [show (x.toNat : Int) * ((2 : Int) ^ s) = ((x.toNat * 2 ^ s : Nat) : Int) from by simp]
  rw [wrapN32]
theorem n32_beq : (n32 x == n32 y) = (x == y) := by
  rw [Bool.eq_iff_iff]; simp only [beq_iff_eq]
  exact ⟨n32_inj, fun h => by rw [h]⟩
theorem n32_bne : (n32 x != n32 y) = (x != y) := by simp only [bne, n32_beq]
end
theorem wrapN64 (n : Nat) : IntKind.u64.wrap (n : Int) = ((n % 18446744073709551616 : Nat) : Int) := by
  simp [IntKind.wrap, IntKind.bits, IntKind.signed]
theorem lt64 (x : UInt64) : x.toNat < 18446744073709551616 := UInt64.toNat_lt x
theorem n64_bd (x : UInt64) : 0 ≤ n64 x ∧ n64 x < 18446744073709551616 := by unfold n64; have := lt64 x; omega
theorem n64_inj {x y : UInt64} (h : n64 x = n64 y) : x = y := by
  unfold n64 at h; exact UInt64.toNat_inj.1 (by omega)
section
variable (x y : UInt64)
@[go_sem ↓ high] theorem and64 : Op.intBits .and .u64 (n64 x) (n64 y) = pure (.int .u64 (n64 (x &&& y))) := by
  unfold n64
  have h := u64_and_nat x.toNat y.toNat (lt64 x) (lt64 y)
  rw [UInt64.toNat_and]; exact congrArg (fun n => pure (Value.int .u64 n)) h
@[go_sem ↓ high] theorem or64 : Op.intBits .or .u64 (n64 x) (n64 y) = pure (.int .u64 (n64 (x ||| y))) := by
  unfold n64
  have h := u64_or_nat x.toNat y.toNat (lt64 x) (lt64 y)
  rw [UInt64.toNat_or]; exact congrArg (fun n => pure (Value.int .u64 n)) h
@[go_sem ↓ high] theorem xor64 : Op.intBits .xor .u64 (n64 x) (n64 y) = pure (.int .u64 (n64 (x ^^^ y))) := by
  unfold n64
  have h := u64_xor_nat x.toNat y.toNat (lt64 x) (lt64 y)
  rw [UInt64.toNat_xor]; exact congrArg (fun n => pure (Value.int .u64 n)) h
@[go_sem ↓ high] theorem add64 : Op.intArith .add .u64 (n64 x) (n64 y) = pure (.int .u64 (n64 (x + y))) := by
  unfold Op.intArith n64
  rw [show (x.toNat : Int) + (y.toNat : Int) = ((x.toNat + y.toNat : Nat) : Int) from by omega]
  simp only [wrapN64]
  rw [UInt64.toNat_add]
@[go_sem ↓ high] theorem mul64 : Op.intArith .mul .u64 (n64 x) (n64 y) = pure (.int .u64 (n64 (x * y))) := by
  unfold Op.intArith n64
  rw [show (x.toNat : Int) * (y.toNat : Int) = ((x.toNat * y.toNat : Nat) : Int) from by simp]
  simp only [wrapN64]
  rw [UInt64.toNat_mul]
@[go_sem high] theorem not64 : Op.unary .xor (.int .u64 (n64 x)) = pure (.int .u64 (n64 (~~~x))) := by
  have h := u64_xor_nat 18446744073709551615 x.toNat (by decide) (lt64 x)
  have e : Op.unary .xor (.int .u64 (x.toNat : Int)) = pure (.int .u64 (bits .xor .u64 (18446744073709551615 : Nat) (x.toNat : Int))) := rfl
  unfold n64
  rw [e, h, UInt64.toNat_not, Nat.xor_comm]
  congr 3
  have hl := lt64 x
  have e2 : x.toNat ^^^ 18446744073709551615 = 18446744073709551616 - (x.toNat + 1) := xorOnes 64 x.toNat hl
  rw [show UInt64.size = 18446744073709551616 from rfl]
  omega
@[go_sem ↓ high] theorem shrA64 (k : IntKind) (s : Nat) (hs : s < 64) : Op.shift .shr .u64 (n64 x) k (s : Int) = pure (.int .u64 (n64 (x >>> UInt64.ofNat s))) := by
  unfold Op.shift n64
  rw [if_neg (by omega)]
  have hm : min s 64 = s := by omega
  have hsz : (UInt64.ofNat s).toNat % 64 = s := by rw [UInt64.toNat_ofNat']; omega
  simp only [IntKind.bits, Int.toNat_natCast, hm, UInt64.toNat_shiftRight, hsz, Nat.shiftRight_eq_div_pow]
  congr 2
  rw [show ((2 : Int) ^ s) = ((2 ^ s : Nat) : Int) from by simp]
  rw [Int.fdiv_eq_ediv_of_nonneg _ (Int.natCast_nonneg _)]
  rw [Int.natCast_ediv]
@[go_sem ↓ high] theorem shlA64 (k : IntKind) (s : Nat) (hs : s < 64) : Op.shift .shl .u64 (n64 x) k (s : Int) = pure (.int .u64 (n64 (x <<< UInt64.ofNat s))) := by
  unfold Op.shift n64
  rw [if_neg (by omega)]
  have hm : min s 64 = s := by omega
  have hsz : (UInt64.ofNat s).toNat % 64 = s := by rw [UInt64.toNat_ofNat']; omega
  simp only [IntKind.bits, Int.toNat_natCast, hm, UInt64.toNat_shiftLeft, hsz, Nat.shiftLeft_eq]
  rw [show (x.toNat : Int) * ((2 : Int) ^ s) = ((x.toNat * 2 ^ s : Nat) : Int) from by simp]
  rw [wrapN64]
theorem n64_beq : (n64 x == n64 y) = (x == y) := by
  rw [Bool.eq_iff_iff]; simp only [beq_iff_eq]
  exact ⟨n64_inj, fun h => by rw [h]⟩
theorem n64_bne : (n64 x != n64 y) = (x != y) := by simp only [bne, n64_beq]
end
@[go_sem ↓ high] theorem shr8_1 (x : UInt8) (k : IntKind) : Op.shift .shr .u8 (n8 x) k 1 = pure (.int .u8 (n8 (x >>> 1))) := shrA8 x k 1 (by decide)
@[go_sem ↓ high] theorem shl8_1 (x : UInt8) (k : IntKind) : Op.shift .shl .u8 (n8 x) k 1 = pure (.int .u8 (n8 (x <<< 1))) := shlA8 x k 1 (by decide)
@[go_sem ↓ high] theorem shr8_2 (x : UInt8) (k : IntKind) : Op.shift .shr .u8 (n8 x) k 2 = pure (.int .u8 (n8 (x >>> 2))) := shrA8 x k 2 (by decide)
@[go_sem ↓ high] theorem shl8_2 (x : UInt8) (k : IntKind) : Op.shift .shl .u8 (n8 x) k 2 = pure (.int .u8 (n8 (x <<< 2))) := shlA8 x k 2 (by decide)
@[go_sem ↓ high] theorem shr8_3 (x : UInt8) (k : IntKind) : Op.shift .shr .u8 (n8 x) k 3 = pure (.int .u8 (n8 (x >>> 3))) := shrA8 x k 3 (by decide)
@[go_sem ↓ high] theorem shl8_3 (x : UInt8) (k : IntKind) : Op.shift .shl .u8 (n8 x) k 3 = pure (.int .u8 (n8 (x <<< 3))) := shlA8 x k 3 (by decide)
@[go_sem ↓ high] theorem shr8_4 (x : UInt8) (k : IntKind) : Op.shift .shr .u8 (n8 x) k 4 = pure (.int .u8 (n8 (x >>> 4))) := shrA8 x k 4 (by decide)
@[go_sem ↓ high] theorem shl8_4 (x : UInt8) (k : IntKind) : Op.shift .shl .u8 (n8 x) k 4 = pure (.int .u8 (n8 (x <<< 4))) := shlA8 x k 4 (by decide)
@[go_sem ↓ high] theorem shr8_5 (x : UInt8) (k : IntKind) : Op.shift .shr .u8 (n8 x) k 5 = pure (.int .u8 (n8 (x >>> 5))) := shrA8 x k 5 (by decide)
@[go_sem ↓ high] theorem shl8_5 (x : UInt8) (k : IntKind) : Op.shift .shl .u8 (n8 x) k 5 = pure (.int .u8 (n8 (x <<< 5))) := shlA8 x k 5 (by decide)
@[go_sem ↓ high] theorem shr8_6 (x : UInt8) (k : IntKind) : Op.shift .shr .u8 (n8 x) k 6 = pure (.int .u8 (n8 (x >>> 6))) := shrA8 x k 6 (by decide)
@[go_sem ↓ high] theorem shl8_6 (x : UInt8) (k : IntKind) : Op.shift .shl .u8 (n8 x) k 6 = pure (.int .u8 (n8 (x <<< 6))) := shlA8 x k 6 (by decide)
@[go_sem ↓ high] theorem shr8_7 (x : UInt8) (k : IntKind) : Op.shift .shr .u8 (n8 x) k 7 = pure (.int .u8 (n8 (x >>> 7))) := shrA8 x k 7 (by decide)
@[go_sem ↓ high] theorem shl8_7 (x : UInt8) (k : IntKind) : Op.shift .shl .u8 (n8 x) k 7 = pure (.int .u8 (n8 (x <<< 7))) := shlA8 x k 7 (by decide)
@[go_sem ↓ high] theorem shr32_3 (x : UInt32) (k : IntKind) : Op.shift .shr .u32 (n32 x) k 3 = pure (.int .u32 (n32 (x >>> 3))) := shrA32 x k 3 (by decide)
@[go_sem ↓ high] theorem shl32_3 (x : UInt32) (k : IntKind) : Op.shift .shl .u32 (n32 x) k 3 = pure (.int .u32 (n32 (x <<< 3))) := shlA32 x k 3 (by decide)
@[go_sem ↓ high] theorem shr32_8 (x : UInt32) (k : IntKind) : Op.shift .shr .u32 (n32 x) k 8 = pure (.int .u32 (n32 (x >>> 8))) := shrA32 x k 8 (by decide)
@[go_sem ↓ high] theorem shl32_8 (x : UInt32) (k : IntKind) : Op.shift .shl .u32 (n32 x) k 8 = pure (.int .u32 (n32 (x <<< 8))) := shlA32 x k 8 (by decide)
@[go_sem ↓ high] theorem shr32_10 (x : UInt32) (k : IntKind) : Op.shift .shr .u32 (n32 x) k 10 = pure (.int .u32 (n32 (x >>> 10))) := shrA32 x k 10 (by decide)
@[go_sem ↓ high] theorem shl32_10 (x : UInt32) (k : IntKind) : Op.shift .shl .u32 (n32 x) k 10 = pure (.int .u32 (n32 (x <<< 10))) := shlA32 x k 10 (by decide)
@[go_sem ↓ high] theorem shr32_16 (x : UInt32) (k : IntKind) : Op.shift .shr .u32 (n32 x) k 16 = pure (.int .u32 (n32 (x >>> 16))) := shrA32 x k 16 (by decide)
@[go_sem ↓ high] theorem shl32_16 (x : UInt32) (k : IntKind) : Op.shift .shl .u32 (n32 x) k 16 = pure (.int .u32 (n32 (x <<< 16))) := shlA32 x k 16 (by decide)
@[go_sem ↓ high] theorem shr32_24 (x : UInt32) (k : IntKind) : Op.shift .shr .u32 (n32 x) k 24 = pure (.int .u32 (n32 (x >>> 24))) := shrA32 x k 24 (by decide)
@[go_sem ↓ high] theorem shl32_24 (x : UInt32) (k : IntKind) : Op.shift .shl .u32 (n32 x) k 24 = pure (.int .u32 (n32 (x <<< 24))) := shlA32 x k 24 (by decide)
@[go_sem ↓ high] theorem shr64_0 (x : UInt64) (k : IntKind) : Op.shift .shr .u64 (n64 x) k 0 = pure (.int .u64 (n64 (x >>> 0))) := shrA64 x k 0 (by decide)
@[go_sem ↓ high] theorem shl64_0 (x : UInt64) (k : IntKind) : Op.shift .shl .u64 (n64 x) k 0 = pure (.int .u64 (n64 (x <<< 0))) := shlA64 x k 0 (by decide)
@[go_sem ↓ high] theorem shr64_3 (x : UInt64) (k : IntKind) : Op.shift .shr .u64 (n64 x) k 3 = pure (.int .u64 (n64 (x >>> 3))) := shrA64 x k 3 (by decide)
@[go_sem ↓ high] theorem shl64_3 (x : UInt64) (k : IntKind) : Op.shift .shl .u64 (n64 x) k 3 = pure (.int .u64 (n64 (x <<< 3))) := shlA64 x k 3 (by decide)
@[go_sem ↓ high] theorem shr64_6 (x : UInt64) (k : IntKind) : Op.shift .shr .u64 (n64 x) k 6 = pure (.int .u64 (n64 (x >>> 6))) := shrA64 x k 6 (by decide)
@[go_sem ↓ high] theorem shl64_6 (x : UInt64) (k : IntKind) : Op.shift .shl .u64 (n64 x) k 6 = pure (.int .u64 (n64 (x <<< 6))) := shlA64 x k 6 (by decide)
@[go_sem ↓ high] theorem shr64_7 (x : UInt64) (k : IntKind) : Op.shift .shr .u64 (n64 x) k 7 = pure (.int .u64 (n64 (x >>> 7))) := shrA64 x k 7 (by decide)
@[go_sem ↓ high] theorem shl64_7 (x : UInt64) (k : IntKind) : Op.shift .shl .u64 (n64 x) k 7 = pure (.int .u64 (n64 (x <<< 7))) := shlA64 x k 7 (by decide)
@[go_sem ↓ high] theorem shr64_8 (x : UInt64) (k : IntKind) : Op.shift .shr .u64 (n64 x) k 8 = pure (.int .u64 (n64 (x >>> 8))) := shrA64 x k 8 (by decide)
@[go_sem ↓ high] theorem shl64_8 (x : UInt64) (k : IntKind) : Op.shift .shl .u64 (n64 x) k 8 = pure (.int .u64 (n64 (x <<< 8))) := shlA64 x k 8 (by decide)
@[go_sem ↓ high] theorem shr64_10 (x : UInt64) (k : IntKind) : Op.shift .shr .u64 (n64 x) k 10 = pure (.int .u64 (n64 (x >>> 10))) := shrA64 x k 10 (by decide)
@[go_sem ↓ high] theorem shl64_10 (x : UInt64) (k : IntKind) : Op.shift .shl .u64 (n64 x) k 10 = pure (.int .u64 (n64 (x <<< 10))) := shlA64 x k 10 (by decide)
@[go_sem ↓ high] theorem shr64_16 (x : UInt64) (k : IntKind) : Op.shift .shr .u64 (n64 x) k 16 = pure (.int .u64 (n64 (x >>> 16))) := shrA64 x k 16 (by decide)
@[go_sem ↓ high] theorem shl64_16 (x : UInt64) (k : IntKind) : Op.shift .shl .u64 (n64 x) k 16 = pure (.int .u64 (n64 (x <<< 16))) := shlA64 x k 16 (by decide)
@[go_sem ↓ high] theorem shr64_24 (x : UInt64) (k : IntKind) : Op.shift .shr .u64 (n64 x) k 24 = pure (.int .u64 (n64 (x >>> 24))) := shrA64 x k 24 (by decide)
@[go_sem ↓ high] theorem shl64_24 (x : UInt64) (k : IntKind) : Op.shift .shl .u64 (n64 x) k 24 = pure (.int .u64 (n64 (x <<< 24))) := shlA64 x k 24 (by decide)
@[go_sem ↓ high] theorem shr64_32 (x : UInt64) (k : IntKind) : Op.shift .shr .u64 (n64 x) k 32 = pure (.int .u64 (n64 (x >>> 32))) := shrA64 x k 32 (by decide)
@[go_sem ↓ high] theorem shl64_32 (x : UInt64) (k : IntKind) : Op.shift .shl .u64 (n64 x) k 32 = pure (.int .u64 (n64 (x <<< 32))) := shlA64 x k 32 (by decide)
@[go_sem ↓ high] theorem shr64_40 (x : UInt64) (k : IntKind) : Op.shift .shr .u64 (n64 x) k 40 = pure (.int .u64 (n64 (x >>> 40))) := shrA64 x k 40 (by decide)
@[go_sem ↓ high] theorem shl64_40 (x : UInt64) (k : IntKind) : Op.shift .shl .u64 (n64 x) k 40 = pure (.int .u64 (n64 (x <<< 40))) := shlA64 x k 40 (by decide)
@[go_sem ↓ high] theorem shr64_48 (x : UInt64) (k : IntKind) : Op.shift .shr .u64 (n64 x) k 48 = pure (.int .u64 (n64 (x >>> 48))) := shrA64 x k 48 (by decide)
@[go_sem ↓ high] theorem shl64_48 (x : UInt64) (k : IntKind) : Op.shift .shl .u64 (n64 x) k 48 = pure (.int .u64 (n64 (x <<< 48))) := shlA64 x k 48 (by decide)
@[go_sem ↓ high] theorem shr64_56 (x : UInt64) (k : IntKind) : Op.shift .shr .u64 (n64 x) k 56 = pure (.int .u64 (n64 (x >>> 56))) := shrA64 x k 56 (by decide)
@[go_sem ↓ high] theorem shl64_56 (x : UInt64) (k : IntKind) : Op.shift .shl .u64 (n64 x) k 56 = pure (.int .u64 (n64 (x <<< 56))) := shlA64 x k 56 (by decide)
@[go_sem high] theorem wrap8_8 (x : UInt8) : IntKind.u8.wrap (n8 x) = n8 x := by
  unfold n8; rw [wrapN8]; have := lt8 x; omega
@[go_sem high] theorem wrap32_8 (x : UInt8) : IntKind.u32.wrap (n8 x) = n32 x.toUInt32 := by
  unfold n8 n32; rw [wrapN32]; have := lt8 x; simp <;> omega
@[go_sem high] theorem wrap64_8 (x : UInt8) : IntKind.u64.wrap (n8 x) = n64 x.toUInt64 := by
  unfold n8 n64; rw [wrapN64]; have := lt8 x; simp <;> omega
@[go_sem high] theorem wrap64i_8 (x : UInt8) (hx : n8 x ≤ 9223372036854775807) : IntKind.i64.wrap (n8 x) = n8 x := IntWalk.i64_in _ (by have := n8_bd x; omega)
@[go_sem high] theorem wrap8_32 (x : UInt32) : IntKind.u8.wrap (n32 x) = n8 x.toUInt8 := by
  unfold n32 n8; rw [wrapN8]; have := lt32 x; simp <;> omega
@[go_sem high] theorem wrap32_32 (x : UInt32) : IntKind.u32.wrap (n32 x) = n32 x := by
  unfold n32; rw [wrapN32]; have := lt32 x; omega
@[go_sem high] theorem wrap64_32 (x : UInt32) : IntKind.u64.wrap (n32 x) = n64 x.toUInt64 := by
  unfold n32 n64; rw [wrapN64]; have := lt32 x; simp <;> omega
@[go_sem high] theorem wrap64i_32 (x : UInt32) (hx : n32 x ≤ 9223372036854775807) : IntKind.i64.wrap (n32 x) = n32 x := IntWalk.i64_in _ (by have := n32_bd x; omega)
@[go_sem high] theorem wrap8_64 (x : UInt64) : IntKind.u8.wrap (n64 x) = n8 x.toUInt8 := by
  unfold n64 n8; rw [wrapN8]; have := lt64 x; simp <;> omega
@[go_sem high] theorem wrap32_64 (x : UInt64) : IntKind.u32.wrap (n64 x) = n32 x.toUInt32 := by
  unfold n64 n32; rw [wrapN32]; have := lt64 x; simp <;> omega
@[go_sem high] theorem wrap64_64 (x : UInt64) : IntKind.u64.wrap (n64 x) = n64 x := by
  unfold n64; rw [wrapN64]; have := lt64 x; omega
@[go_sem high] theorem wrap64i_64 (x : UInt64) (hx : n64 x ≤ 9223372036854775807) : IntKind.i64.wrap (n64 x) = n64 x := IntWalk.i64_in _ (by have := n64_bd x; omega)
@[go_sem ↓ high] theorem mul64_8 (x : UInt64) : Op.intArith .mul .u64 8 (n64 x) = pure (.int .u64 (n64 (8 * x))) := mul64 8 x
end Go.Proofs.Ytpalomkcgfalnaa
