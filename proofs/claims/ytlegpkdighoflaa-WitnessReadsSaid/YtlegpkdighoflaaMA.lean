/- How the walk's arithmetic on uint8, uint32, uint64 reads as the arithmetic of UInt8, UInt32, UInt64: nothing wraps and nothing is owed. · What SHA-256 and SHA-512 compute, as plain functions on bytes and words: no program in sight. · Words for memory: a block known whole, a slice that reads as a list of cells (nil let in), bytes; what keeps them. No condition. · append(s, make([]byte, n)...) on a slice that the call owns; append of a slice that is read, nil or not; both as steps of the walk. · Aggregates in memory: 'row?' reads n cells, 'can?' asks whether n cells may be written, 'put' writes them; loads, stores and makings of whole arrays and structs as single steps of the walk. · Arrays of bytes and words as values of the walk: 'A8 l', 'A32 l', 'A64 l' are whole arrays; loads, stores, makings and indexes are single steps. · A []byte that the call owns: appends to it as single steps. · The constants' functions of package sha. · slices.Grow of nil, slices.Concat of byte slices, and sha's padded. -/
import Derived.WalkKit
import Derived.Deep.Draws
import Derived.Maps.AppendAt
import Derived.OwnWalk
import Derived.Deep.MidRow
import Derived.KernelRfl
import Derived.Test.YtlegpkdighoflaaProg
import Derived.WalkLawsBesides
import Derived.Outline
import Derived.Lib.Hide
set_option linter.unusedVariables false
set_option linter.unusedSimpArgs false
namespace Go.Proofs.Ytlegpkdighoflaa
open Go.RowKit
/-- The number of a byte or word, behind a name that no simp set opens. -/
theorem xorOnes (n x : Nat) (h : x < 2 ^ n) : x ^^^ (2 ^ n - 1) = 2 ^ n - (x + 1) := by
  refine Nat.eq_of_testBit_eq fun i => ?_
  rw [Nat.testBit_xor, Nat.testBit_two_pow_sub_succ h, Nat.testBit_two_pow_sub_one]
  by_cases hi : i < n
  · simp [hi]
  · have : x.testBit i = false := Nat.testBit_lt_two_pow (Nat.lt_of_lt_of_le h (Nat.pow_le_pow_right (by omega) (by omega)))
    simp [hi, this]
def n8 (x : UInt8) : Int := (x.toNat : Int)
def n32 (x : UInt32) : Int := (x.toNat : Int)
def n64 (x : UInt64) : Int := (x.toNat : Int)

theorem wrapN8 (n : Nat) : IntKind.u8.wrap (n : Int) = ((n % 256 : Nat) : Int) := by
  simp [IntKind.wrap, IntKind.bits, IntKind.signed]
theorem lt8 (x : UInt8) : x.toNat < 256 := UInt8.toNat_lt x
theorem n8_bd (x : UInt8) : 0 ≤ n8 x ∧ n8 x < 256 := by unfold n8; have := lt8 x; omega
theorem n8_inj {x y : UInt8} (h : n8 x = n8 y) : x = y := by
  unfold n8 at h; exact UInt8.toNat_inj.1 (by omega)
section
variable (x y : UInt8)
@[go_sem ↓ high] theorem and8 : Op.intBits .and .u8 (n8 x) (n8 y) = pure (.int .u8 (n8 (x &&& y))) := by
  unfold n8
  have h := u8_and_nat x.toNat y.toNat (lt8 x) (lt8 y)
  rw [UInt8.toNat_and]; exact congrArg (fun n => pure (Value.int .u8 n)) h
@[go_sem ↓ high] theorem or8 : Op.intBits .or .u8 (n8 x) (n8 y) = pure (.int .u8 (n8 (x ||| y))) := by
  unfold n8
  have h := u8_or_nat x.toNat y.toNat (lt8 x) (lt8 y)
  rw [UInt8.toNat_or]; exact congrArg (fun n => pure (Value.int .u8 n)) h
@[go_sem ↓ high] theorem xor8 : Op.intBits .xor .u8 (n8 x) (n8 y) = pure (.int .u8 (n8 (x ^^^ y))) := by
  unfold n8
  have h := u8_xor_nat x.toNat y.toNat (lt8 x) (lt8 y)
  rw [UInt8.toNat_xor]; exact congrArg (fun n => pure (Value.int .u8 n)) h
@[go_sem ↓ high] theorem add8 : Op.intArith .add .u8 (n8 x) (n8 y) = pure (.int .u8 (n8 (x + y))) := by
  unfold Op.intArith n8
  rw [show (x.toNat : Int) + (y.toNat : Int) = ((x.toNat + y.toNat : Nat) : Int) from by omega]
  simp only [wrapN8]
  rw [UInt8.toNat_add]
@[go_sem ↓ high] theorem mul8 : Op.intArith .mul .u8 (n8 x) (n8 y) = pure (.int .u8 (n8 (x * y))) := by
  unfold Op.intArith n8
  rw [show (x.toNat : Int) * (y.toNat : Int) = ((x.toNat * y.toNat : Nat) : Int) from by simp]
  simp only [wrapN8]
  rw [UInt8.toNat_mul]
@[go_sem high] theorem not8 : Op.unary .xor (.int .u8 (n8 x)) = pure (.int .u8 (n8 (~~~x))) := by
  have h := u8_xor_nat 255 x.toNat (by decide) (lt8 x)
  have e : Op.unary .xor (.int .u8 (x.toNat : Int)) = pure (.int .u8 (bits .xor .u8 (255 : Nat) (x.toNat : Int))) := rfl
  unfold n8
  rw [e, h, UInt8.toNat_not, Nat.xor_comm]
  congr 3
  have hl := lt8 x
  have e2 : x.toNat ^^^ 255 = 256 - (x.toNat + 1) := xorOnes 8 x.toNat hl
  rw [show UInt8.size = 256 from rfl]
  omega
@[go_sem ↓ high] theorem shrA8 (k : IntKind) (s : Nat) (hs : s < 8) : Op.shift .shr .u8 (n8 x) k (s : Int) = pure (.int .u8 (n8 (x >>> UInt8.ofNat s))) := by
  unfold Op.shift n8
  rw [if_neg (by omega)]
  have hm : min s 8 = s := by omega
  have hsz : (UInt8.ofNat s).toNat % 8 = s := by rw [UInt8.toNat_ofNat']; omega
  simp only [IntKind.bits, Int.toNat_natCast, hm, UInt8.toNat_shiftRight, hsz, Nat.shiftRight_eq_div_pow]
  congr 2
  rw [show ((2 : Int) ^ s) = ((2 ^ s : Nat) : Int) from by simp]
  rw [Int.fdiv_eq_ediv_of_nonneg _ (Int.natCast_nonneg _)]
  rw [Int.natCast_ediv]
@[go_sem ↓ high] theorem shlA8 (k : IntKind) (s : Nat) (hs : s < 8) : Op.shift .shl .u8 (n8 x) k (s : Int) = pure (.int .u8 (n8 (x <<< UInt8.ofNat s))) := by
  unfold Op.shift n8
  rw [if_neg (by omega)]
  have hm : min s 8 = s := by omega
  have hsz : (UInt8.ofNat s).toNat % 8 = s := by rw [UInt8.toNat_ofNat']; omega
  simp only [IntKind.bits, Int.toNat_natCast, hm, UInt8.toNat_shiftLeft, hsz, Nat.shiftLeft_eq]
  rw [show (x.toNat : Int) * ((2 : Int) ^ s) = ((x.toNat * 2 ^ s : Nat) : Int) from by simp]
  rw [wrapN8]
theorem n8_beq : (n8 x == n8 y) = (x == y) := by
  rw [Bool.eq_iff_iff]; simp only [beq_iff_eq]
  exact ⟨n8_inj, fun h => by rw [h]⟩
theorem n8_bne : (n8 x != n8 y) = (x != y) := by simp only [bne, n8_beq]
end
theorem wrapN32 (n : Nat) : IntKind.u32.wrap (n : Int) = ((n % 4294967296 : Nat) : Int) := by
  simp [IntKind.wrap, IntKind.bits, IntKind.signed]
theorem lt32 (x : UInt32) : x.toNat < 4294967296 := UInt32.toNat_lt x
theorem n32_bd (x : UInt32) : 0 ≤ n32 x ∧ n32 x < 4294967296 := by unfold n32; have := lt32 x; omega
theorem n32_inj {x y : UInt32} (h : n32 x = n32 y) : x = y := by
  unfold n32 at h; exact UInt32.toNat_inj.1 (by omega)
section
variable (x y : UInt32)
@[go_sem ↓ high] theorem and32 : Op.intBits .and .u32 (n32 x) (n32 y) = pure (.int .u32 (n32 (x &&& y))) := by
  unfold n32
  have h := u32_and_nat x.toNat y.toNat (lt32 x) (lt32 y)
  rw [UInt32.toNat_and]; exact congrArg (fun n => pure (Value.int .u32 n)) h
@[go_sem ↓ high] theorem or32 : Op.intBits .or .u32 (n32 x) (n32 y) = pure (.int .u32 (n32 (x ||| y))) := by
  unfold n32
  have h := u32_or_nat x.toNat y.toNat (lt32 x) (lt32 y)
  rw [UInt32.toNat_or]; exact congrArg (fun n => pure (Value.int .u32 n)) h
@[go_sem ↓ high] theorem xor32 : Op.intBits .xor .u32 (n32 x) (n32 y) = pure (.int .u32 (n32 (x ^^^ y))) := by
  unfold n32
  have h := u32_xor_nat x.toNat y.toNat (lt32 x) (lt32 y)
  rw [UInt32.toNat_xor]; exact congrArg (fun n => pure (Value.int .u32 n)) h
@[go_sem ↓ high] theorem add32 : Op.intArith .add .u32 (n32 x) (n32 y) = pure (.int .u32 (n32 (x + y))) := by
  unfold Op.intArith n32
  rw [show (x.toNat : Int) + (y.toNat : Int) = ((x.toNat + y.toNat : Nat) : Int) from by omega]
  simp only [wrapN32]
  rw [UInt32.toNat_add]
@[go_sem ↓ high] theorem mul32 : Op.intArith .mul .u32 (n32 x) (n32 y) = pure (.int .u32 (n32 (x * y))) := by
  unfold Op.intArith n32
  rw [show (x.toNat : Int) * (y.toNat : Int) = ((x.toNat * y.toNat : Nat) : Int) from by simp]
  simp only [wrapN32]
  rw [UInt32.toNat_mul]
@[go_sem high] theorem not32 : Op.unary .xor (.int .u32 (n32 x)) = pure (.int .u32 (n32 (~~~x))) := by
  have h := u32_xor_nat 4294967295 x.toNat (by decide) (lt32 x)
  have e : Op.unary .xor (.int .u32 (x.toNat : Int)) = pure (.int .u32 (bits .xor .u32 (4294967295 : Nat) (x.toNat : Int))) := rfl
  unfold n32
  rw [e, h, UInt32.toNat_not, Nat.xor_comm]
  congr 3
  have hl := lt32 x
  have e2 : x.toNat ^^^ 4294967295 = 4294967296 - (x.toNat + 1) := xorOnes 32 x.toNat hl
  rw [show UInt32.size = 4294967296 from rfl]
  omega
@[go_sem ↓ high] theorem shrA32 (k : IntKind) (s : Nat) (hs : s < 32) : Op.shift .shr .u32 (n32 x) k (s : Int) = pure (.int .u32 (n32 (x >>> UInt32.ofNat s))) := by
  unfold Op.shift n32
  rw [if_neg (by omega)]
  have hm : min s 32 = s := by omega
  have hsz : (UInt32.ofNat s).toNat % 32 = s := by rw [UInt32.toNat_ofNat']; omega
  simp only [IntKind.bits, Int.toNat_natCast, hm, UInt32.toNat_shiftRight, hsz, Nat.shiftRight_eq_div_pow]
  congr 2
  rw [show ((2 : Int) ^ s) = ((2 ^ s : Nat) : Int) from by simp]
  rw [Int.fdiv_eq_ediv_of_nonneg _ (Int.natCast_nonneg _)]
  rw [Int.natCast_ediv]
@[go_sem ↓ high] theorem shlA32 (k : IntKind) (s : Nat) (hs : s < 32) : Op.shift .shl .u32 (n32 x) k (s : Int) = pure (.int .u32 (n32 (x <<< UInt32.ofNat s))) := by
  unfold Op.shift n32
  rw [if_neg (by omega)]
  have hm : min s 32 = s := by omega
  have hsz : (UInt32.ofNat s).toNat % 32 = s := by rw [UInt32.toNat_ofNat']; omega
  simp only [IntKind.bits, Int.toNat_natCast, hm, UInt32.toNat_shiftLeft, hsz, Nat.shiftLeft_eq]
  rw [show (x.toNat : Int) * ((2 : Int) ^ s) = ((x.toNat * 2 ^ s : Nat) : Int) from by simp]
  rw [wrapN32]
theorem n32_beq : (n32 x == n32 y) = (x == y) := by
  rw [Bool.eq_iff_iff]; simp only [beq_iff_eq]
  exact ⟨n32_inj, fun h => by rw [h]⟩
theorem n32_bne : (n32 x != n32 y) = (x != y) := by simp only [bne, n32_beq]
end
theorem wrapN64 (n : Nat) : IntKind.u64.wrap (n : Int) = ((n % 18446744073709551616 : Nat) : Int) := by
  simp [IntKind.wrap, IntKind.bits, IntKind.signed]
theorem lt64 (x : UInt64) : x.toNat < 18446744073709551616 := UInt64.toNat_lt x
theorem n64_bd (x : UInt64) : 0 ≤ n64 x ∧ n64 x < 18446744073709551616 := by unfold n64; have := lt64 x; omega
theorem n64_inj {x y : UInt64} (h : n64 x = n64 y) : x = y := by
  unfold n64 at h; exact UInt64.toNat_inj.1 (by omega)
section
variable (x y : UInt64)
@[go_sem ↓ high] theorem and64 : Op.intBits .and .u64 (n64 x) (n64 y) = pure (.int .u64 (n64 (x &&& y))) := by
  unfold n64
  have h := u64_and_nat x.toNat y.toNat (lt64 x) (lt64 y)
  rw [UInt64.toNat_and]; exact congrArg (fun n => pure (Value.int .u64 n)) h
@[go_sem ↓ high] theorem or64 : Op.intBits .or .u64 (n64 x) (n64 y) = pure (.int .u64 (n64 (x ||| y))) := by
  unfold n64
  have h := u64_or_nat x.toNat y.toNat (lt64 x) (lt64 y)
  rw [UInt64.toNat_or]; exact congrArg (fun n => pure (Value.int .u64 n)) h
@[go_sem ↓ high] theorem xor64 : Op.intBits .xor .u64 (n64 x) (n64 y) = pure (.int .u64 (n64 (x ^^^ y))) := by
  unfold n64
  have h := u64_xor_nat x.toNat y.toNat (lt64 x) (lt64 y)
  rw [UInt64.toNat_xor]; exact congrArg (fun n => pure (Value.int .u64 n)) h
@[go_sem ↓ high] theorem add64 : Op.intArith .add .u64 (n64 x) (n64 y) = pure (.int .u64 (n64 (x + y))) := by
  unfold Op.intArith n64
  rw [show (x.toNat : Int) + (y.toNat : Int) = ((x.toNat + y.toNat : Nat) : Int) from by omega]
  simp only [wrapN64]
  rw [UInt64.toNat_add]
@[go_sem ↓ high] theorem mul64 : Op.intArith .mul .u64 (n64 x) (n64 y) = pure (.int .u64 (n64 (x * y))) := by
  unfold Op.intArith n64
  rw [show (x.toNat : Int) * (y.toNat : Int) = ((x.toNat * y.toNat : Nat) : Int) from by simp]
  simp only [wrapN64]
  rw [UInt64.toNat_mul]
@[go_sem high] theorem not64 : Op.unary .xor (.int .u64 (n64 x)) = pure (.int .u64 (n64 (~~~x))) := by
  have h := u64_xor_nat 18446744073709551615 x.toNat (by decide) (lt64 x)
  have e : Op.unary .xor (.int .u64 (x.toNat : Int)) = pure (.int .u64 (bits .xor .u64 (18446744073709551615 : Nat) (x.toNat : Int))) := rfl
  unfold n64
  rw [e, h, UInt64.toNat_not, Nat.xor_comm]
  congr 3
  have hl := lt64 x
  have e2 : x.toNat ^^^ 18446744073709551615 = 18446744073709551616 - (x.toNat + 1) := xorOnes 64 x.toNat hl
  rw [show UInt64.size = 18446744073709551616 from rfl]
  omega
@[go_sem ↓ high] theorem shrA64 (k : IntKind) (s : Nat) (hs : s < 64) : Op.shift .shr .u64 (n64 x) k (s : Int) = pure (.int .u64 (n64 (x >>> UInt64.ofNat s))) := by
  unfold Op.shift n64
  rw [if_neg (by omega)]
  have hm : min s 64 = s := by omega
  have hsz : (UInt64.ofNat s).toNat % 64 = s := by rw [UInt64.toNat_ofNat']; omega
  simp only [IntKind.bits, Int.toNat_natCast, hm, UInt64.toNat_shiftRight, hsz, Nat.shiftRight_eq_div_pow]
  congr 2
  rw [show ((2 : Int) ^ s) = ((2 ^ s : Nat) : Int) from by simp]
  rw [Int.fdiv_eq_ediv_of_nonneg _ (Int.natCast_nonneg _)]
  rw [Int.natCast_ediv]
@[go_sem ↓ high] theorem shlA64 (k : IntKind) (s : Nat) (hs : s < 64) : Op.shift .shl .u64 (n64 x) k (s : Int) = pure (.int .u64 (n64 (x <<< UInt64.ofNat s))) := by
  unfold Op.shift n64
  rw [if_neg (by omega)]
  have hm : min s 64 = s := by omega
  have hsz : (UInt64.ofNat s).toNat % 64 = s := by rw [UInt64.toNat_ofNat']; omega
  simp only [IntKind.bits, Int.toNat_natCast, hm, UInt64.toNat_shiftLeft, hsz, Nat.shiftLeft_eq]
  rw [show (x.toNat : Int) * ((2 : Int) ^ s) = ((x.toNat * 2 ^ s : Nat) : Int) from by simp]
  rw [wrapN64]
theorem n64_beq : (n64 x == n64 y) = (x == y) := by
  rw [Bool.eq_iff_iff]; simp only [beq_iff_eq]
  exact ⟨n64_inj, fun h => by rw [h]⟩
theorem n64_bne : (n64 x != n64 y) = (x != y) := by simp only [bne, n64_beq]
end
@[go_sem ↓ high] theorem shr8_1 (x : UInt8) (k : IntKind) : Op.shift .shr .u8 (n8 x) k 1 = pure (.int .u8 (n8 (x >>> 1))) := shrA8 x k 1 (by decide)
@[go_sem ↓ high] theorem shl8_1 (x : UInt8) (k : IntKind) : Op.shift .shl .u8 (n8 x) k 1 = pure (.int .u8 (n8 (x <<< 1))) := shlA8 x k 1 (by decide)
@[go_sem ↓ high] theorem shr8_2 (x : UInt8) (k : IntKind) : Op.shift .shr .u8 (n8 x) k 2 = pure (.int .u8 (n8 (x >>> 2))) := shrA8 x k 2 (by decide)
@[go_sem ↓ high] theorem shl8_2 (x : UInt8) (k : IntKind) : Op.shift .shl .u8 (n8 x) k 2 = pure (.int .u8 (n8 (x <<< 2))) := shlA8 x k 2 (by decide)
@[go_sem ↓ high] theorem shr8_3 (x : UInt8) (k : IntKind) : Op.shift .shr .u8 (n8 x) k 3 = pure (.int .u8 (n8 (x >>> 3))) := shrA8 x k 3 (by decide)
@[go_sem ↓ high] theorem shl8_3 (x : UInt8) (k : IntKind) : Op.shift .shl .u8 (n8 x) k 3 = pure (.int .u8 (n8 (x <<< 3))) := shlA8 x k 3 (by decide)
@[go_sem ↓ high] theorem shr8_4 (x : UInt8) (k : IntKind) : Op.shift .shr .u8 (n8 x) k 4 = pure (.int .u8 (n8 (x >>> 4))) := shrA8 x k 4 (by decide)
@[go_sem ↓ high] theorem shl8_4 (x : UInt8) (k : IntKind) : Op.shift .shl .u8 (n8 x) k 4 = pure (.int .u8 (n8 (x <<< 4))) := shlA8 x k 4 (by decide)
@[go_sem ↓ high] theorem shr8_5 (x : UInt8) (k : IntKind) : Op.shift .shr .u8 (n8 x) k 5 = pure (.int .u8 (n8 (x >>> 5))) := shrA8 x k 5 (by decide)
@[go_sem ↓ high] theorem shl8_5 (x : UInt8) (k : IntKind) : Op.shift .shl .u8 (n8 x) k 5 = pure (.int .u8 (n8 (x <<< 5))) := shlA8 x k 5 (by decide)
@[go_sem ↓ high] theorem shr8_6 (x : UInt8) (k : IntKind) : Op.shift .shr .u8 (n8 x) k 6 = pure (.int .u8 (n8 (x >>> 6))) := shrA8 x k 6 (by decide)
@[go_sem ↓ high] theorem shl8_6 (x : UInt8) (k : IntKind) : Op.shift .shl .u8 (n8 x) k 6 = pure (.int .u8 (n8 (x <<< 6))) := shlA8 x k 6 (by decide)
@[go_sem ↓ high] theorem shr8_7 (x : UInt8) (k : IntKind) : Op.shift .shr .u8 (n8 x) k 7 = pure (.int .u8 (n8 (x >>> 7))) := shrA8 x k 7 (by decide)
@[go_sem ↓ high] theorem shl8_7 (x : UInt8) (k : IntKind) : Op.shift .shl .u8 (n8 x) k 7 = pure (.int .u8 (n8 (x <<< 7))) := shlA8 x k 7 (by decide)
@[go_sem ↓ high] theorem shr32_3 (x : UInt32) (k : IntKind) : Op.shift .shr .u32 (n32 x) k 3 = pure (.int .u32 (n32 (x >>> 3))) := shrA32 x k 3 (by decide)
@[go_sem ↓ high] theorem shl32_3 (x : UInt32) (k : IntKind) : Op.shift .shl .u32 (n32 x) k 3 = pure (.int .u32 (n32 (x <<< 3))) := shlA32 x k 3 (by decide)
@[go_sem ↓ high] theorem shr32_8 (x : UInt32) (k : IntKind) : Op.shift .shr .u32 (n32 x) k 8 = pure (.int .u32 (n32 (x >>> 8))) := shrA32 x k 8 (by decide)
@[go_sem ↓ high] theorem shl32_8 (x : UInt32) (k : IntKind) : Op.shift .shl .u32 (n32 x) k 8 = pure (.int .u32 (n32 (x <<< 8))) := shlA32 x k 8 (by decide)
@[go_sem ↓ high] theorem shr32_10 (x : UInt32) (k : IntKind) : Op.shift .shr .u32 (n32 x) k 10 = pure (.int .u32 (n32 (x >>> 10))) := shrA32 x k 10 (by decide)
@[go_sem ↓ high] theorem shl32_10 (x : UInt32) (k : IntKind) : Op.shift .shl .u32 (n32 x) k 10 = pure (.int .u32 (n32 (x <<< 10))) := shlA32 x k 10 (by decide)
@[go_sem ↓ high] theorem shr32_16 (x : UInt32) (k : IntKind) : Op.shift .shr .u32 (n32 x) k 16 = pure (.int .u32 (n32 (x >>> 16))) := shrA32 x k 16 (by decide)
@[go_sem ↓ high] theorem shl32_16 (x : UInt32) (k : IntKind) : Op.shift .shl .u32 (n32 x) k 16 = pure (.int .u32 (n32 (x <<< 16))) := shlA32 x k 16 (by decide)
@[go_sem ↓ high] theorem shr32_24 (x : UInt32) (k : IntKind) : Op.shift .shr .u32 (n32 x) k 24 = pure (.int .u32 (n32 (x >>> 24))) := shrA32 x k 24 (by decide)
@[go_sem ↓ high] theorem shl32_24 (x : UInt32) (k : IntKind) : Op.shift .shl .u32 (n32 x) k 24 = pure (.int .u32 (n32 (x <<< 24))) := shlA32 x k 24 (by decide)
@[go_sem ↓ high] theorem shr64_0 (x : UInt64) (k : IntKind) : Op.shift .shr .u64 (n64 x) k 0 = pure (.int .u64 (n64 (x >>> 0))) := shrA64 x k 0 (by decide)
@[go_sem ↓ high] theorem shl64_0 (x : UInt64) (k : IntKind) : Op.shift .shl .u64 (n64 x) k 0 = pure (.int .u64 (n64 (x <<< 0))) := shlA64 x k 0 (by decide)
@[go_sem ↓ high] theorem shr64_3 (x : UInt64) (k : IntKind) : Op.shift .shr .u64 (n64 x) k 3 = pure (.int .u64 (n64 (x >>> 3))) := shrA64 x k 3 (by decide)
@[go_sem ↓ high] theorem shl64_3 (x : UInt64) (k : IntKind) : Op.shift .shl .u64 (n64 x) k 3 = pure (.int .u64 (n64 (x <<< 3))) := shlA64 x k 3 (by decide)
@[go_sem ↓ high] theorem shr64_6 (x : UInt64) (k : IntKind) : Op.shift .shr .u64 (n64 x) k 6 = pure (.int .u64 (n64 (x >>> 6))) := shrA64 x k 6 (by decide)
@[go_sem ↓ high] theorem shl64_6 (x : UInt64) (k : IntKind) : Op.shift .shl .u64 (n64 x) k 6 = pure (.int .u64 (n64 (x <<< 6))) := shlA64 x k 6 (by decide)
@[go_sem ↓ high] theorem shr64_7 (x : UInt64) (k : IntKind) : Op.shift .shr .u64 (n64 x) k 7 = pure (.int .u64 (n64 (x >>> 7))) := shrA64 x k 7 (by decide)
@[go_sem ↓ high] theorem shl64_7 (x : UInt64) (k : IntKind) : Op.shift .shl .u64 (n64 x) k 7 = pure (.int .u64 (n64 (x <<< 7))) := shlA64 x k 7 (by decide)
@[go_sem ↓ high] theorem shr64_8 (x : UInt64) (k : IntKind) : Op.shift .shr .u64 (n64 x) k 8 = pure (.int .u64 (n64 (x >>> 8))) := shrA64 x k 8 (by decide)
@[go_sem ↓ high] theorem shl64_8 (x : UInt64) (k : IntKind) : Op.shift .shl .u64 (n64 x) k 8 = pure (.int .u64 (n64 (x <<< 8))) := shlA64 x k 8 (by decide)
@[go_sem ↓ high] theorem shr64_10 (x : UInt64) (k : IntKind) : Op.shift .shr .u64 (n64 x) k 10 = pure (.int .u64 (n64 (x >>> 10))) := shrA64 x k 10 (by decide)
@[go_sem ↓ high] theorem shl64_10 (x : UInt64) (k : IntKind) : Op.shift .shl .u64 (n64 x) k 10 = pure (.int .u64 (n64 (x <<< 10))) := shlA64 x k 10 (by decide)
@[go_sem ↓ high] theorem shr64_16 (x : UInt64) (k : IntKind) : Op.shift .shr .u64 (n64 x) k 16 = pure (.int .u64 (n64 (x >>> 16))) := shrA64 x k 16 (by decide)
@[go_sem ↓ high] theorem shl64_16 (x : UInt64) (k : IntKind) : Op.shift .shl .u64 (n64 x) k 16 = pure (.int .u64 (n64 (x <<< 16))) := shlA64 x k 16 (by decide)
@[go_sem ↓ high] theorem shr64_24 (x : UInt64) (k : IntKind) : Op.shift .shr .u64 (n64 x) k 24 = pure (.int .u64 (n64 (x >>> 24))) := shrA64 x k 24 (by decide)
@[go_sem ↓ high] theorem shl64_24 (x : UInt64) (k : IntKind) : Op.shift .shl .u64 (n64 x) k 24 = pure (.int .u64 (n64 (x <<< 24))) := shlA64 x k 24 (by decide)
@[go_sem ↓ high] theorem shr64_32 (x : UInt64) (k : IntKind) : Op.shift .shr .u64 (n64 x) k 32 = pure (.int .u64 (n64 (x >>> 32))) := shrA64 x k 32 (by decide)
@[go_sem ↓ high] theorem shl64_32 (x : UInt64) (k : IntKind) : Op.shift .shl .u64 (n64 x) k 32 = pure (.int .u64 (n64 (x <<< 32))) := shlA64 x k 32 (by decide)
@[go_sem ↓ high] theorem shr64_40 (x : UInt64) (k : IntKind) : Op.shift .shr .u64 (n64 x) k 40 = pure (.int .u64 (n64 (x >>> 40))) := shrA64 x k 40 (by decide)
@[go_sem ↓ high] theorem shl64_40 (x : UInt64) (k : IntKind) : Op.shift .shl .u64 (n64 x) k 40 = pure (.int .u64 (n64 (x <<< 40))) := shlA64 x k 40 (by decide)
@[go_sem ↓ high] theorem shr64_48 (x : UInt64) (k : IntKind) : Op.shift .shr .u64 (n64 x) k 48 = pure (.int .u64 (n64 (x >>> 48))) := shrA64 x k 48 (by decide)
@[go_sem ↓ high] theorem shl64_48 (x : UInt64) (k : IntKind) : Op.shift .shl .u64 (n64 x) k 48 = pure (.int .u64 (n64 (x <<< 48))) := shlA64 x k 48 (by decide)
@[go_sem ↓ high] theorem shr64_56 (x : UInt64) (k : IntKind) : Op.shift .shr .u64 (n64 x) k 56 = pure (.int .u64 (n64 (x >>> 56))) := shrA64 x k 56 (by decide)
@[go_sem ↓ high] theorem shl64_56 (x : UInt64) (k : IntKind) : Op.shift .shl .u64 (n64 x) k 56 = pure (.int .u64 (n64 (x <<< 56))) := shlA64 x k 56 (by decide)
@[go_sem high] theorem wrap8_8 (x : UInt8) : IntKind.u8.wrap (n8 x) = n8 x := by
  unfold n8; rw [wrapN8]; have := lt8 x; omega
@[go_sem high] theorem wrap32_8 (x : UInt8) : IntKind.u32.wrap (n8 x) = n32 x.toUInt32 := by
  unfold n8 n32; rw [wrapN32]; have := lt8 x; simp <;> omega
@[go_sem high] theorem wrap64_8 (x : UInt8) : IntKind.u64.wrap (n8 x) = n64 x.toUInt64 := by
  unfold n8 n64; rw [wrapN64]; have := lt8 x; simp <;> omega
@[go_sem high] theorem wrap64i_8 (x : UInt8) (hx : n8 x ≤ 9223372036854775807) : IntKind.i64.wrap (n8 x) = n8 x := IntWalk.i64_in _ (by have := n8_bd x; omega)
@[go_sem high] theorem wrap8_32 (x : UInt32) : IntKind.u8.wrap (n32 x) = n8 x.toUInt8 := by
  unfold n32 n8; rw [wrapN8]; have := lt32 x; simp <;> omega
@[go_sem high] theorem wrap32_32 (x : UInt32) : IntKind.u32.wrap (n32 x) = n32 x := by
  unfold n32; rw [wrapN32]; have := lt32 x; omega
@[go_sem high] theorem wrap64_32 (x : UInt32) : IntKind.u64.wrap (n32 x) = n64 x.toUInt64 := by
  unfold n32 n64; rw [wrapN64]; have := lt32 x; simp <;> omega
@[go_sem high] theorem wrap64i_32 (x : UInt32) (hx : n32 x ≤ 9223372036854775807) : IntKind.i64.wrap (n32 x) = n32 x := IntWalk.i64_in _ (by have := n32_bd x; omega)
@[go_sem high] theorem wrap8_64 (x : UInt64) : IntKind.u8.wrap (n64 x) = n8 x.toUInt8 := by
  unfold n64 n8; rw [wrapN8]; have := lt64 x; simp <;> omega
@[go_sem high] theorem wrap32_64 (x : UInt64) : IntKind.u32.wrap (n64 x) = n32 x.toUInt32 := by
  unfold n64 n32; rw [wrapN32]; have := lt64 x; simp <;> omega
@[go_sem high] theorem wrap64_64 (x : UInt64) : IntKind.u64.wrap (n64 x) = n64 x := by
  unfold n64; rw [wrapN64]; have := lt64 x; omega
@[go_sem high] theorem wrap64i_64 (x : UInt64) (hx : n64 x ≤ 9223372036854775807) : IntKind.i64.wrap (n64 x) = n64 x := IntWalk.i64_in _ (by have := n64_bd x; omega)
@[go_sem ↓ high] theorem mul64_8 (x : UInt64) : Op.intArith .mul .u64 8 (n64 x) = pure (.int .u64 (n64 (8 * x))) := mul64 8 x
end Go.Proofs.Ytlegpkdighoflaa
namespace Go.Proofs.Ytlegpkdighoflaa
namespace Sh
def cubes : List UInt64 := [
  4794697086780616226, 8158064640168781261, 13096744586834688815, 16840607885511220156, 4131703408338449720, 6480981068601479193, 10538285296894168987, 12329834152419229976, 15566598209576043074, 1334009975649890238, 2608012711638119052, 6128411473006802146, 8268148722764581231, 9286055187155687089, 11230858885718282805, 13951009754708518548, 16472876342353939154, 17275323862435702243, 1135362057144423861, 2597628984639134821, 3308224258029322869, 5365058923640841347, 6679025012923562964, 8573033837759648693, 10970295158949994411, 12119686244451234320, 12683024718118986047, 13788192230050041572, 14330467153632333762, 15395433587784984357, 489312712824947311, 1452737877330783856, 2861767655752347644, 3322285676063803686, 5560940570517711597, 5996557281743188959, 7280758554555802590, 8532644243296465576, 9350256976987008742, 10552545826968843579, 11727347734174303076, 12113106623233404929, 14000437183269869457, 14369950271660146224, 15101387698204529176, 15463397548674623760, 17586052441742319658, 1182934255886127544, 1847814050463011016, 2177327727835720531, 2830643537854262169, 3796741975233480872, 4115178125766777443, 5681478168544905931, 6601373596472566643, 7507060721942968483, 8399075790359081724, 8693463985226723168, 9568029438360202098, 10144078919501101548, 10430055236837252648, 11840083180663258601, 13761210420658862357, 14299343276471374635, 14566680578165727644, 15097957966210449927, 16922976911328602910, 17689382322260857208, 500013540394364858, 748580250866718886, 1242879168328830382, 1977374033974150939, 2944078676154940804, 3659926193048069267, 4368137639120453308, 4836135668995329356, 5532061633213252278, 6448918945643986474, 6902733635092675308, 7801388544844847127]
def squares : List UInt64 := [
  7640891576956012808, 13503953896175478587, 4354685564936845355, 11912009170470909681, 5840696475078001361, 11170449401992604703, 2270897969802886507, 6620516959819538809]
/-- A place of a list, nought behind its end; a name that no simp set opens. -/
def g8 (l : List UInt8) (i : Nat) : UInt8 := l.getD i 0
def g32 (l : List UInt32) (i : Nat) : UInt32 := l.getD i 0
def g64 (l : List UInt64) (i : Nat) : UInt64 := l.getD i 0
def rotl32 (x : UInt32) (k : Int) : UInt32 := x <<< UInt32.ofNat (32 + k).toNat ||| x >>> UInt32.ofNat (-k).toNat
def rotl64 (x : UInt64) (k : Int) : UInt64 := x <<< UInt64.ofNat (64 + k).toNat ||| x >>> UInt64.ofNat (-k).toNat
/-- A number's eight bytes, the highest first. -/
def be64 (n : UInt64) : List UInt8 := [(n >>> 56).toUInt8, (n >>> 48).toUInt8, (n >>> 40).toUInt8, (n >>> 32).toUInt8, (n >>> 24).toUInt8, (n >>> 16).toUInt8, (n >>> 8).toUInt8, n.toUInt8]
def zeros (block n : Nat) : Nat := (block - (n + 1 + block / 8) % block) % block
def pad (block : Nat) (l : List UInt8) : List UInt8 :=
  l ++ [128] ++ List.replicate (zeros block l.length) 0 ++ List.replicate (block / 8 - 8) 0 ++ be64 (8 * UInt64.ofNat l.length)


def word32 (b : List UInt8) (t : Nat) : UInt32 := ((g8 b (4 * t)).toUInt32 <<< 24 ||| (g8 b (4 * t + 1)).toUInt32 <<< 16 ||| (g8 b (4 * t + 2)).toUInt32 <<< 8 ||| (g8 b (4 * t + 3)).toUInt32)
def next32 (y m x l : UInt32) : UInt32 := (rotl32 y (-17) ^^^ rotl32 y (-19) ^^^ y >>> 10) + m + (rotl32 x (-7) ^^^ rotl32 x (-18) ^^^ x >>> 3) + l
/-- The schedule's first k words. -/
def W32 (b : List UInt8) : Nat → List UInt32
  | 0 => []
  | t + 1 => W32 b t ++ [if t < 16 then word32 b t else
      next32 (g32 (W32 b t) (t - 2)) (g32 (W32 b t) (t - 7)) (g32 (W32 b t) (t - 15)) (g32 (W32 b t) (t - 16))]
def ta32 (v : List UInt32) (k m : UInt32) : UInt32 :=
  let e := g32 v 4
  g32 v 7 + (rotl32 e (-6) ^^^ rotl32 e (-11) ^^^ rotl32 e (-25)) + (e &&& g32 v 5 ^^^ ~~~e &&& g32 v 6) + k + m
def tb32 (v : List UInt32) : UInt32 :=
  let a := g32 v 0
  (rotl32 a (-2) ^^^ rotl32 a (-13) ^^^ rotl32 a (-22)) + (a &&& g32 v 1 ^^^ a &&& g32 v 2 ^^^ g32 v 1 &&& g32 v 2)
def round32 (v : List UInt32) (k m : UInt32) : List UInt32 :=
  [ta32 v k m + tb32 v, g32 v 0, g32 v 1, g32 v 2, g32 v 3 + ta32 v k m, g32 v 4, g32 v 5, g32 v 6]
def K32 (t : Nat) : UInt32 := ((g64 cubes t) >>> 32).toUInt32
def turns32 (h W : List UInt32) : Nat → List UInt32
  | 0 => h
  | t + 1 => round32 (turns32 h W t) (K32 t) (g32 W t)
def add32 (h v : List UInt32) : List UInt32 := List.zipWith (· + ·) h v
def block32 (h : List UInt32) (b : List UInt8) : List UInt32 := add32 h (turns32 h (W32 b 64) 64)
/-- The state behind so many blocks. -/
def state32 (p : List UInt8) : Nat → List UInt32
  | 0 => squares.map fun (r : UInt64) => (r >>> 32).toUInt32
  | i + 1 => block32 (state32 p i) (p.drop (64 * i))
def bytes32 (x : UInt32) : List UInt8 := [(x >>> 24).toUInt8, (x >>> 16).toUInt8, (x >>> 8).toUInt8, x.toUInt8]
def out32 (h : List UInt32) : List UInt8 := h.flatMap bytes32
def sum32 (l : List UInt8) : List UInt8 := out32 (state32 (pad 64 l) ((pad 64 l).length / 64))


def word64 (b : List UInt8) (t : Nat) : UInt64 := ((b.drop (8 * t)).take 8).foldl (fun m x => m <<< 8 ||| x.toUInt64) 0
def next64 (y m x l : UInt64) : UInt64 := (rotl64 y (-19) ^^^ rotl64 y (-61) ^^^ y >>> 6) + m + (rotl64 x (-1) ^^^ rotl64 x (-8) ^^^ x >>> 7) + l
/-- The schedule's first k words. -/
def W64 (b : List UInt8) : Nat → List UInt64
  | 0 => []
  | t + 1 => W64 b t ++ [if t < 16 then word64 b t else
      next64 (g64 (W64 b t) (t - 2)) (g64 (W64 b t) (t - 7)) (g64 (W64 b t) (t - 15)) (g64 (W64 b t) (t - 16))]
def ta64 (v : List UInt64) (k m : UInt64) : UInt64 :=
  let e := g64 v 4
  g64 v 7 + (rotl64 e (-14) ^^^ rotl64 e (-18) ^^^ rotl64 e (-41)) + (e &&& g64 v 5 ^^^ ~~~e &&& g64 v 6) + k + m
def tb64 (v : List UInt64) : UInt64 :=
  let a := g64 v 0
  (rotl64 a (-28) ^^^ rotl64 a (-34) ^^^ rotl64 a (-39)) + (a &&& g64 v 1 ^^^ a &&& g64 v 2 ^^^ g64 v 1 &&& g64 v 2)
def round64 (v : List UInt64) (k m : UInt64) : List UInt64 :=
  [ta64 v k m + tb64 v, g64 v 0, g64 v 1, g64 v 2, g64 v 3 + ta64 v k m, g64 v 4, g64 v 5, g64 v 6]
def K64 (t : Nat) : UInt64 := g64 cubes t
def turns64 (h W : List UInt64) : Nat → List UInt64
  | 0 => h
  | t + 1 => round64 (turns64 h W t) (K64 t) (g64 W t)
def add64 (h v : List UInt64) : List UInt64 := List.zipWith (· + ·) h v
def block64 (h : List UInt64) (b : List UInt8) : List UInt64 := add64 h (turns64 h (W64 b 80) 80)
/-- The state behind so many blocks. -/
def state64 (p : List UInt8) : Nat → List UInt64
  | 0 => squares
  | i + 1 => block64 (state64 p i) (p.drop (128 * i))
def bytes64 (x : UInt64) : List UInt8 := be64 x
def out64 (h : List UInt64) : List UInt8 := h.flatMap bytes64
def sum64 (l : List UInt8) : List UInt8 := out64 (state64 (pad 128 l) ((pad 128 l).length / 128))


theorem length_W32 (b : List UInt8) (k : Nat) : (W32 b k).length = k := by
  induction k with
  | zero => rfl
  | succ k ih => simp [W32, ih]
theorem length_W64 (b : List UInt8) (k : Nat) : (W64 b k).length = k := by
  induction k with
  | zero => rfl
  | succ k ih => simp [W64, ih]
theorem length_turns32 (h W : List UInt32) (hh : h.length = 8) (k : Nat) : (turns32 h W k).length = 8 := by
  cases k with
  | zero => exact hh
  | succ k => simp [turns32, round32]
theorem length_turns64 (h W : List UInt64) (hh : h.length = 8) (k : Nat) : (turns64 h W k).length = 8 := by
  cases k with
  | zero => exact hh
  | succ k => simp [turns64, round64]
theorem length_state32 (p : List UInt8) (i : Nat) : (state32 p i).length = 8 := by
  induction i with
  | zero => simp [state32, squares]
  | succ i ih => simp [state32, block32, add32, length_turns32 _ _ ih, ih]
theorem length_state64 (p : List UInt8) (i : Nat) : (state64 p i).length = 8 := by
  induction i with
  | zero => simp [state64, squares]
  | succ i ih => simp [state64, block64, add64, length_turns64 _ _ ih, ih]
theorem length_out32 (h : List UInt32) : (out32 h).length = 4 * h.length := by
  unfold out32
  induction h with
  | nil => rfl
  | cons x h ih => simp [bytes32] at ih ⊢; omega
theorem length_out64 (h : List UInt64) : (out64 h).length = 8 * h.length := by
  unfold out64
  induction h with
  | nil => rfl
  | cons x h ih => simp [bytes64, be64] at ih ⊢; omega
theorem length_sum32 (l : List UInt8) : (sum32 l).length = 32 := by unfold sum32; rw [length_out32, length_state32]
theorem length_sum64 (l : List UInt8) : (sum64 l).length = 64 := by unfold sum64; rw [length_out64, length_state64]
theorem abc32 : sum32 [97, 98, 99] = [0xba,0x78,0x16,0xbf,0x8f,0x01,0xcf,0xea,0x41,0x41,0x40,0xde,0x5d,0xae,0x22,0x23,0xb0,0x03,0x61,0xa3,0x96,0x17,0x7a,0x9c,0xb4,0x10,0xff,0x61,0xf2,0x00,0x15,0xad] := by decide +kernel
theorem abc64 : (sum64 [97, 98, 99]).take 2 = [0xdd, 0xaf] ∧ (sum64 [97, 98, 99]).getD 63 0 = 0x9f := by decide +kernel
theorem pad_mod (l : List UInt8) : (pad 64 l).length % 64 = 0 ∧ (pad 128 l).length % 128 = 0 := by
  simp [pad, zeros, be64]; omega
end Sh
end Go.Proofs.Ytlegpkdighoflaa
namespace Go.Proofs.Ytlegpkdighoflaa
open Go Go.RowKit

/-- Values of bytes and words. -/
def v8 (x : UInt8) : Value := .int .u8 (n8 x)
def v32 (x : UInt32) : Value := .int .u32 (n32 x)
def v64 (x : UInt64) : Value := .int .u64 (n64 x)

theorem addr_block (a : Addr) (n : Nat) : (a.add n).block = a.block := by unfold Addr.add; split <;> rfl
theorem addr_add (a : Addr) (i j : Nat) : (a.add i).add j = a.add (i + j) := by
  unfold Addr.add
  by_cases hi : i = 0 <;> by_cases hj : j = 0 <;> simp [hi, hj, Nat.add_assoc]
theorem addr_lit (g o n : Nat) : (⟨g, o, none⟩ : Addr).add n = ⟨g, o + n, none⟩ := by unfold Addr.add; split <;> simp_all

/-- Block g is just these cells, of type t, none of them frozen. -/
def Bk (w : World) (g : Nat) (t : TypeId) (cs : List Value) : Prop := w.heap[g]? = some (.cells cs.toArray t (0, 0))

section
variable {w w' : World} {g : Nat} {t : TypeId} {cs : List Value}
theorem Bk.lt (h : Bk w g t cs) : g < w.heap.size := by
  rcases Nat.lt_or_ge g w.heap.size with hlt | hge
  · exact hlt
  · unfold Bk at h; rw [Array.getElem?_eq_none hge] at h; cases h
theorem Bk.cell (h : Bk w g t cs) (i : Nat) : w.cell? ⟨g, i, none⟩ = cs[i]? := by
  rw [cell_of_row w g i _ t (0, 0) h]; simp
theorem Bk.at_ (h : Bk w g t cs) {i : Nat} {u : Value} (hi : cs[i]? = some u) : w.cell? ⟨g, i, none⟩ = some u := by rw [h.cell, hi]
theorem Bk.frozen (h : Bk w g t cs) (i : Nat) : w.frozen? ⟨g, i, none⟩ = false := by
  unfold Bk at h
  simp [World.frozen?, h]
theorem Bk.new (w : World) (t : TypeId) (cs : List Value) : Bk (w.alloc (.cells cs.toArray t)) w.heap.size t cs := heap_alloc_new w _
theorem Bk.drew (h : Bk w g t cs) : Bk w.drew g t cs := h
theorem Bk.drewN (h : Bk w g t cs) (n : Nat) : Bk (w.drewN n) g t cs := h
theorem Bk.alloc (h : Bk w g t cs) (o : Obj) : Bk (w.alloc o) g t cs := (Below.heap_alloc w o g h.lt).trans h
theorem Bk.set_ (h : Bk w g t cs) (i : Nat) (u : Value) : Bk (w.setCell ⟨g, i, none⟩ u) g t (cs.set i u) := by
  unfold Bk at h ⊢
  simp [World.setCell, Array.getElem?_modify, h]
theorem Bk.far (h : Bk w g t cs) {p : Addr} (hp : g ≠ p.block) (u : Value) : Bk (w.setCell p u) g t cs := (Below.heap_setCell w p u g hp).trans h
theorem Bk.below {B : Nat} (h : Bk w g t cs) (hb : Below B w w') (hg : g < B) : Bk w' g t cs := (hb.block g hg).trans h
theorem Bk.grown {row : Option Nat} (h : Bk w g t cs) (hb : w.grownBy w' row) (hg : some g ≠ row) : Bk w' g t cs := (hb.block g h.lt hg).trans h
end

theorem below_drewN {B : Nat} {a w : World} (h : Below B a w) (n : Nat) : Below B a (w.drewN n) := ⟨h.os, h.tape, h.output, h.size, h.block⟩

/-- The blocks from lo to hi are as they were. -/
def Mid (lo hi : Nat) (w w' : World) : Prop := ∀ k, lo ≤ k → k < hi → w'.heap[k]? = w.heap[k]?
section
variable {lo hi : Nat} {a w w' : World}
theorem Mid.refl (lo hi : Nat) (w : World) : Mid lo hi w w := fun _ _ _ => rfl
theorem Mid.trans (h : Mid lo hi a w) (h' : Mid lo hi w w') : Mid lo hi a w' := fun k h1 h2 => (h' k h1 h2).trans (h k h1 h2)
theorem Mid.below {B : Nat} (h : Below B w w') (hB : hi ≤ B) : Mid lo hi w w' := fun k _ h2 => h.block k (by omega)
theorem Mid.drewN (h : Mid lo hi a w) (n : Nat) : Mid lo hi a (w.drewN n) := h
theorem Mid.drew (h : Mid lo hi a w) : Mid lo hi a w.drew := h
theorem Mid.alloc (h : Mid lo hi a w) (hs : hi ≤ w.heap.size) (o : Obj) : Mid lo hi a (w.alloc o) := fun k h1 h2 => (Below.heap_alloc w o k (by omega)).trans (h k h1 h2)
theorem Mid.setCell (h : Mid lo hi a w) {p : Addr} (hp : p.block < lo ∨ hi ≤ p.block) (u : Value) : Mid lo hi a (w.setCell p u) := fun k h1 h2 => (Below.heap_setCell w p u k (by omega)).trans (h k h1 h2)
theorem Mid.cell (h : Mid lo hi w w') {p : Addr} (h1 : lo ≤ p.block) (h2 : p.block < hi) : w'.cell? p = w.cell? p := World.cell?_of_block (h _ h1 h2)
end

/-- The address A holds these cells, in a block from lo to B (nil will do where there are none). -/
def Rd (w : World) (lo B : Nat) (A : Option Addr) (cs : List Value) : Prop :=
  cs = [] ∨ ∃ g o, A = some ⟨g, o, none⟩ ∧ lo ≤ g ∧ g < B ∧ ∀ j u, cs[j]? = some u → w.cell? ⟨g, o + j, none⟩ = some u

section
variable {w w' : World} {lo lo' B B' : Nat} {A : Option Addr} {cs : List Value}
theorem Rd.nil (w : World) (lo B : Nat) (A : Option Addr) : Rd w lo B A [] := .inl rfl
theorem Rd.keep (h : Rd w lo B A cs) (hk : ∀ p : Addr, lo ≤ p.block → p.block < B → w'.cell? p = w.cell? p) : Rd w' lo B A cs := by
  rcases h with h | ⟨g, o, e, hl, hb, hc⟩
  · exact .inl h
  · exact .inr ⟨g, o, e, hl, hb, fun j u hu => (hk _ hl hb).trans (hc j u hu)⟩
theorem Rd.more (h : Rd w lo B A cs) (hB : B ≤ B') : Rd w lo B' A cs := by
  rcases h with h | ⟨g, o, e, hl, hb, hc⟩
  · exact .inl h
  · exact .inr ⟨g, o, e, hl, by omega, hc⟩
theorem Rd.less (h : Rd w lo B A cs) (hl' : lo' ≤ lo) : Rd w lo' B A cs := by
  rcases h with h | ⟨g, o, e, hl, hb, hc⟩
  · exact .inl h
  · exact .inr ⟨g, o, e, by omega, hb, hc⟩
theorem Rd.below (h : Rd w lo B A cs) (hb : Below B w w') : Rd w' lo B A cs := h.keep fun _ _ hp => hb.cell hp
theorem Rd.mid (h : Rd w lo B A cs) (hb : Mid lo B w w') : Rd w' lo B A cs := h.keep fun _ hl hp => hb.cell hl hp
theorem Rd.some (h : Rd w lo B A cs) (hn : 0 < cs.length) : ∃ g o, A = some ⟨g, o, none⟩ ∧ lo ≤ g ∧ g < B ∧ ∀ j u, cs[j]? = some u → w.cell? ⟨g, o + j, none⟩ = some u := by
  rcases h with h | h
  · rw [h] at hn; cases hn
  · exact h
/-- A cut from k on, as the model has it: at k = cap the address stays. -/
theorem Rd.cut (h : Rd w lo B A cs) {k cap : Nat} (hc : cs.length ≤ cap) :
    Rd w lo B (if cap = k then A else A.map (·.add k)) (cs.drop k) := by
  rcases Nat.lt_or_ge k cs.length with hlt | hge
  · obtain ⟨g, o, rfl, hl, hb, hcell⟩ := h.some (by omega)
    rw [if_neg (by omega)]
    refine .inr ⟨g, o + k, by simp [addr_lit], hl, hb, fun j u hu => ?_⟩
    rw [List.getElem?_drop] at hu
    rw [Nat.add_assoc]
    exact hcell _ u hu
  · exact .inl (List.drop_eq_nil_of_le hge)
theorem Rd.take (h : Rd w lo B A cs) (k : Nat) : Rd w lo B A (cs.take k) := by
  rcases h with h | ⟨g, o, e, hl, hb, hc⟩
  · subst h; exact .inl (by simp)
  · refine .inr ⟨g, o, e, hl, hb, fun j u hu => hc j u ?_⟩
    rw [List.getElem?_take] at hu
    split at hu
    · exact hu
    · cases hu
theorem Rd.of_own {base : Nat} {e : TypeId} {n c : Nat} (h : w.ownsRow base e 1 (.slice A n c) n cs) : Rd w base w.heap.size A cs := by
  rcases h.2 with ⟨hv, hn⟩ | ⟨g, cap, cur, hv, hbg, hh, _⟩
  · exact .inl (List.eq_nil_of_length_eq_zero (by rw [h.1, hn, Nat.zero_mul]))
  · have hA : A = Option.some ⟨g, 0, none⟩ := by injection hv
    subst hA
    refine .inr ⟨g, 0, rfl, hbg, (Array.getElem?_eq_some_iff.1 hh).1, fun j u hu => ?_⟩
    have := h.cells (g := g) rfl j u hu
    rwa [addr_lit] at this
end

/-- The slice value v reads as these cells (one cell an element), in a block from lo to B. -/
def Sl (w : World) (lo B : Nat) (v : Value) (cs : List Value) : Prop := ∃ A c, v = .slice A cs.length c ∧ cs.length ≤ c ∧ c ≤ maxLen ∧ Rd w lo B A cs
/-- .. as these bytes. -/
def By (w : World) (lo B : Nat) (v : Value) (l : List UInt8) : Prop := Sl w lo B v (l.map v8)

section
variable {w w' : World} {lo lo' B B' : Nat} {v : Value} {cs : List Value} {l : List UInt8}
theorem Sl.below (h : Sl w lo B v cs) (hb : Below B w w') : Sl w' lo B v cs := let ⟨A, c, h1, h2, h3, h4⟩ := h; ⟨A, c, h1, h2, h3, h4.below hb⟩
theorem Sl.mid (h : Sl w lo B v cs) (hb : Mid lo B w w') : Sl w' lo B v cs := let ⟨A, c, h1, h2, h3, h4⟩ := h; ⟨A, c, h1, h2, h3, h4.mid hb⟩
theorem Sl.more (h : Sl w lo B v cs) (hB : B ≤ B') : Sl w lo B' v cs := let ⟨A, c, h1, h2, h3, h4⟩ := h; ⟨A, c, h1, h2, h3, h4.more hB⟩
theorem Sl.less (h : Sl w lo B v cs) (hl : lo' ≤ lo) : Sl w lo' B v cs := let ⟨A, c, h1, h2, h3, h4⟩ := h; ⟨A, c, h1, h2, h3, h4.less hl⟩
theorem Sl.len (h : Sl w lo B v cs) : cs.length ≤ maxLen := by obtain ⟨A, c, _, h2, h3, _⟩ := h; omega
theorem Sl.of_own {base : Nat} {e : TypeId} {n : Nat} (h : w.ownsRow base e 1 v n cs) : Sl w base w.heap.size v cs := by
  have hl : cs.length = n := by rw [h.1, Nat.mul_one]
  rcases h.2 with ⟨rfl, hn⟩ | ⟨g, cap, cur, rfl, hr⟩
  · subst hn
    have : cs = [] := List.eq_nil_of_length_eq_zero hl
    subst this
    exact ⟨none, 0, rfl, Nat.le_refl _, by simp [maxLen], .inl rfl⟩
  · exact ⟨_, cap, by rw [hl], by rw [hl]; exact hr.2.2.1, hr.2.2.2.1, Rd.of_own h⟩
theorem By.below (h : By w lo B v l) (hb : Below B w w') : By w' lo B v l := Sl.below h hb
theorem By.mid (h : By w lo B v l) (hb : Mid lo B w w') : By w' lo B v l := Sl.mid h hb
theorem By.more (h : By w lo B v l) (hB : B ≤ B') : By w lo B' v l := Sl.more h hB
theorem By.less (h : By w lo B v l) (hl : lo' ≤ lo) : By w lo' B v l := Sl.less h hl
theorem By.len (h : By w lo B v l) : l.length ≤ maxLen := by have := Sl.len h; rwa [List.length_map] at this
/-- Opened: the value, its address and capacity; each byte's cell. -/
theorem By.open_ (h : By w lo B v l) : ∃ A c, v = .slice A l.length c ∧ l.length ≤ c ∧ c ≤ 9223372036854775807 ∧ Rd w lo B A (l.map v8) := by
  obtain ⟨A, c, h1, h2, h3, h4⟩ := h
  rw [List.length_map] at h1 h2
  exact ⟨A, c, h1, h2, by unfold maxLen at h3; exact h3, h4⟩
theorem By.mk_ {A : Option Addr} {c : Nat} (h2 : l.length ≤ c) (h3 : c ≤ maxLen) (h4 : Rd w lo B A (l.map v8)) : By w lo B (.slice A l.length c) l :=
  ⟨A, c, by rw [List.length_map], by rwa [List.length_map], h3, h4⟩
theorem By.nil (w : World) (lo B : Nat) : By w lo B (.slice none 0 0) [] := ⟨none, 0, rfl, Nat.le_refl _, by simp [maxLen], .inl rfl⟩
end
/-- A byte's cell. -/
theorem cell8 {w : World} {g o : Nat} {l : List UInt8} (h : ∀ j u, (l.map v8)[j]? = some u → w.cell? ⟨g, o + j, none⟩ = some u) {k : Nat} (hk : k < l.length) :
    w.cell? ⟨g, o + k, none⟩ = some (.int .u8 (n8 (Sh.g8 l k))) := by
  refine h k _ ?_
  rw [List.getElem?_map, List.getElem?_eq_getElem hk]
  simp [v8, hk, Sh.g8]
theorem set_map {α : Type} (f : α → Value) (l : List α) (i : Nat) (x : α) : (l.map f).set i (f x) = (l.set i x).map f := by rw [List.map_set]
theorem map_at {α : Type} [Inhabited α] (f : α → Value) {l : List α} {i : Nat} (d : α) (h : i < l.length) : (l.map f)[i]? = some (f (l.getD i d)) := by
  rw [List.getElem?_map, List.getElem?_eq_getElem h]; simp [h]
end Go.Proofs.Ytlegpkdighoflaa
namespace Go.Proofs.Ytlegpkdighoflaa
open Go Go.RowKit

section
variable {P : Program} (w : World)

theorem zeroCells_one (z : Value) (n : Nat) (hz : z.cells = #[z]) : Builtin.zeroCells z.cells n = (List.replicate n z).toArray := by
  apply Array.ext'
  rw [hz]
  apply List.ext_getElem?
  intro j
  simp only [Builtin.zeroCells, Array.toList_map, Array.toList_range]
  rw [List.getElem?_map]
  by_cases h : j < n
  · simp [h, Nat.mod_one]
  · simp [h]

/-- append of n zero values of one cell, on a row of the call's own. -/
theorem run_append_zeros (base : Nat) (t tn ty e : TypeId) (i : TypeInfo) (z : Value) (bytes : Nat) (ht : P.underlying t = some (.slice e)) (k : IntKind) (htn : P.underlying tn = some (.int k))
    (hi : P.info? e = some i) (hz : i.zero = some z) (hsize : i.size = 1) (hby : i.bytes = bytes) (hzs : z.cells = #[z]) (h1 : z.oneCell' = true)
    (v : Value) (n : Nat) (xs : List Value) (hown : w.ownsRow base e 1 v n xs) (k' : IntKind) (m : Nat)
    (h63 : n + m ≤ maxLen) (hbytes : (n + m) * bytes ≤ 140737488355328) (hbase : base ≤ w.heap.size) :
    ∃ v' w', (Builtin.append_ #[t, tn] ty #[v, .int k' m]).run P w = .ok v' w' ∧ w'.ownsRow base e 1 v' (n + m) (xs ++ List.replicate m z) ∧ w.grownBy w' v.ownBlock ∧
      (v'.ownBlock = v.ownBlock ∨ v'.ownBlock = some w.heap.size) := by
  subst hby
  have hlen : (xs ++ List.replicate m z).length = (n + m) * 1 := by rw [List.length_append, hown.1]; simp
  have hm63 : m ≤ 9223372036854775807 := by simp only [maxLen] at h63; omega
  have hwm : IntKind.i64.wrap (m : Int) = (m : Int) := IntWalk.i64_in _ (by omega)
  have hneg : ¬ ((m : Int) < 0) := by omega
  have hmb : m * i.bytes ≤ 140737488355328 := Nat.le_trans (Nat.mul_le_mul_right _ (by omega)) hbytes
  have h48 : ¬ (281474976710656 < (m : Int) * (i.bytes : Int)) := by
    have : ((m * i.bytes : Nat) : Int) ≤ 140737488355328 := by omega
    rw [Int.natCast_mul] at this; omega
  have grown : ∀ (old : Nat), old < n + m → ∀ (row : Option Nat),
      (w.drew.alloc (.cells (xs.toArray ++ (List.replicate m z).toArray ++ Builtin.zeroCells z.cells (grownCap w (n + m) old e - (n + m))) e)).ownsRow base e 1
        (.slice (some ⟨w.heap.size, 0, none⟩) (n + m) (grownCap w (n + m) old e)) (n + m) (xs ++ List.replicate m z) ∧
      w.grownBy (w.drew.alloc (.cells (xs.toArray ++ (List.replicate m z).toArray ++ Builtin.zeroCells z.cells (grownCap w (n + m) old e - (n + m))) e)) row := by
    intro old ho row
    have hge := grownCap_ge w (n + m) old e
    have hcm : grownCap w (n + m) old e ≤ maxLen := grownCap_le_maxLen w (n + m) old e h63
    refine ⟨⟨hlen, .inr ⟨w.heap.size, _, _, rfl, hbase, heap_alloc_new w.drew _, hge, hcm, ?_, ?_⟩⟩, ⟨rfl, rfl, rfl, by simp, fun k hk _ => Below.heap_alloc w.drew _ k hk⟩⟩
    · have hx : xs.length = n := by rw [hown.1, Nat.mul_one]
      rw [zeroCells_one z _ hzs]
      simp [hx]; omega
    · simp only [Array.toList_append, List.append_assoc]
      rw [← List.append_assoc, ← hlen]
      exact List.take_left
  rcases hown.2 with ⟨rfl, rfl⟩ | ⟨g, cap, cur, rfl, hbg, hg, hnc, hcm, hcs, htake⟩
  · have hx : xs = [] := List.eq_nil_of_length_eq_zero (by simpa using hown.1)
    subst hx
    by_cases hm : m = 0
    · subst hm
      refine ⟨.slice none 0 0, w, ?_, World.ownsRow_nil w base e 1, ⟨rfl, rfl, rfl, Nat.le_refl _, fun _ _ _ => rfl⟩, .inl rfl⟩
      simp [Builtin.append_, run_underlying ht, run_underlying htn, sizeOf, typeInfo, hi, asInt, asIntOf, IntWalk.i64_in 0 (by omega)]
    · have hgr := grown 0 (by omega) (Value.ownBlock (.slice none 0 0))
      refine ⟨_, _, ?_, hgr.1, hgr.2, .inr rfl⟩
      have hn0 : ¬ (0 + m ≤ 0) := by omega
      have hfit : ¬ (281474976710656 < Builtin.nextslicecap (0 + m) 0 * i.bytes) := by have := growslice_fits (need := 0 + m) (old := 0) (bytes := i.bytes) (by omega) hbytes; omega
      simp only [Nat.zero_add] at hn0 hfit
      have h63' : ¬ (9223372036854775807 < (m : Int)) := by omega
      simp [Builtin.append_, run_underlying ht, run_underlying htn, sizeOf, typeInfo, zeroValue, hi, hz, asInt, asIntOf, hwm, hneg, h48, hm, h63', hfit, Question.forced, run_firstCells_none, newRow, grownCap, hsize, zeroCells_one z _ hzs]
  · by_cases hroom : n + m ≤ cap
    · by_cases hm : m = 0
      · subst hm
        refine ⟨.slice (some ⟨g, 0, none⟩) n cap, w, ?_, by simpa using hown, World.grownBy.refl w _, .inl rfl⟩
        simp [Builtin.append_, run_underlying ht, run_underlying htn, sizeOf, typeInfo, hi, asInt, asIntOf, IntWalk.i64_in 0 (by omega), hnc, storeCells]
      · have hst := run_storeCells_at P g (n * 1) e (List.replicate m z) 0 cur w hg (by simp [hcs]; omega) (fun u hu => by rw [List.eq_of_mem_replicate hu]; exact h1)
        simp only [Nat.add_zero] at hst
        refine ⟨.slice (some ⟨g, 0, none⟩) (n + m) cap, w.setRow g (cur.toList.take (n * 1) ++ List.replicate m z ++ cur.toList.drop (n * 1 + (List.replicate m z).length)).toArray, ?_, ⟨hlen, .inr ⟨g, cap, _, rfl, hbg, setRow_heap w g cur _ e _ hg, hroom, hcm, ?_, ?_⟩⟩,
          ⟨rfl, rfl, rfl, by simp, fun k _ hk => setRow_other w g k _ (fun e => hk (by simp [Value.ownBlock, e]))⟩, .inl rfl⟩
        · simp only [Nat.mul_one] at hst
          simp [Builtin.append_, run_underlying ht, run_underlying htn, sizeOf, typeInfo, zeroValue, hi, hz, asInt, asIntOf, hwm, hneg, h48, hm, hroom, hsize, zeroCells_one z _ hzs, Addr.add_lit, hst]
        · simp only [List.size_toArray, List.length_append, List.length_take, List.length_drop, Array.length_toList]
          simp; omega
        · rw [htake, ← hlen]
          exact List.take_left
    · have holds : ∀ j u, xs[j]? = some u → w.cell? ((⟨g, 0, none⟩ : Addr).add j) = some u := hown.cells (g := g) rfl
      have hgr := grown cap (by omega) (Value.ownBlock (.slice (some ⟨g, 0, none⟩) n cap))
      refine ⟨_, _, ?_, hgr.1, hgr.2, .inr rfl⟩
      have hm : m ≠ 0 := by omega
      have hfit : ¬ (281474976710656 < Builtin.nextslicecap (n + m) cap * i.bytes) := by have := growslice_fits (need := n + m) (old := cap) (bytes := i.bytes) (by omega) hbytes; omega
      have h63' : ¬ (9223372036854775807 < (n : Int) + (m : Int)) := by simp only [maxLen] at h63; omega
      have hfo := run_firstCells_some (P := P) w.drew 1 n ⟨g, 0, none⟩ n cap xs (by rw [hown.1]) (by simpa using holds)
      simp [Builtin.append_, run_underlying ht, run_underlying htn, sizeOf, typeInfo, zeroValue, hi, hz, asInt, asIntOf, hwm, hneg, h48, hm, hroom, h63', hfit, hfo, Question.forced, newRow, grownCap, hsize, zeroCells_one z _ hzs]
/-- append of nothing leaves the value and the world as they are. -/
theorem run_append_void (base t ty e : Nat) (i : TypeInfo) (size : Nat) (ht : P.underlying t = some (.slice e)) (hi : P.info? e = some i) (v : Value) (n : Nat) (xs : List Value) (hown : w.ownsRow base e size v n xs) (c : Nat) :
    (Builtin.append_ #[t, t] ty #[v, .slice none 0 c]).run P w = .ok v w := by
  rcases hown.2 with ⟨rfl, rfl⟩ | ⟨g, cap, cur, rfl, _, _, hnc, _⟩
  · simp [Builtin.append_, run_underlying ht, sizeOf, typeInfo, hi, Builtin.lenOf, Builtin.firstCells]
  · simp [Builtin.append_, run_underlying ht, sizeOf, typeInfo, hi, Builtin.lenOf, Builtin.firstCells, hnc, storeCells]
end
end Go.Proofs.Ytlegpkdighoflaa
namespace Go.Proofs.Ytlegpkdighoflaa
open Go Go.RowKit

def rowAt (w : World) (a : Addr) (n : Nat) : Option (List Value) := (List.range n).mapM fun j => w.cell? (a.add j)
def canAt (w : World) (a : Addr) (n : Nat) : Bool := (List.range n).all fun j => (w.cell? (a.add j)).isSome && !w.frozen? (a.add j)
def putAt (w : World) (a : Addr) (cs : List Value) : World := w.setCells a.block a.off cs

theorem mapM_range {α : Type} (f : Nat → Option α) : ∀ (n : Nat) (cs : List α), ((List.range n).mapM f = some cs ↔ cs.length = n ∧ ∀ j (u : α), cs[j]? = some u → f j = some u) := by
  intro n
  induction n with
  | zero =>
    intro cs
    constructor
    · intro h; simp at h; subst h; simp
    · rintro ⟨h, -⟩; have := List.eq_nil_of_length_eq_zero h; subst this; simp
  | succ n ih =>
    intro cs
    rw [List.range_succ, List.mapM_append]
    constructor
    · intro h
      simp only [Option.bind_eq_bind, Option.bind_eq_some_iff, List.mapM_cons, List.mapM_nil] at h
      obtain ⟨xs, hx, ys, ⟨y, hy, z, hz, hyz⟩, he⟩ := h
      obtain ⟨h1, h2⟩ := (ih xs).1 hx
      simp only [pure, Option.some.injEq] at hz hyz he
      subst hz; subst hyz; subst he
      refine ⟨by simp [h1], fun j u hj => ?_⟩
      rcases Nat.lt_or_ge j n with hlt | hge
      · exact h2 j u (by rwa [List.getElem?_append_left (by omega)] at hj)
      · rw [List.getElem?_append_right (by omega)] at hj
        by_cases e : j = n
        · subst e; simp [h1] at hj; subst hj; exact hy
        · rw [List.getElem?_eq_none (by simp; omega)] at hj; cases hj
    · rintro ⟨h1, h2⟩
      have hn : n < cs.length := by omega
      have hx : (List.range n).mapM f = some (cs.take n) := (ih _).2 ⟨by simp; omega, fun j u hj => by
        rw [List.getElem?_take] at hj
        split at hj
        · exact h2 j u hj
        · cases hj⟩
      simp only [Option.bind_eq_bind, Option.bind_eq_some_iff, List.mapM_cons, List.mapM_nil, pure, Option.some.injEq]
      refine ⟨_, hx, [cs[n]], ⟨cs[n], h2 n _ (List.getElem?_eq_getElem hn), [], rfl, rfl⟩, ?_⟩
      rw [List.take_append_getElem]
      exact List.take_of_length_le (by omega)

theorem rowAt_iff {w : World} {g o n : Nat} {cs : List Value} : rowAt w ⟨g, o, none⟩ n = some cs ↔ cs.length = n ∧ w.rangeAt g o cs := by
  unfold rowAt World.rangeAt
  rw [mapM_range]
  simp only [addr_lit]
theorem canAt_iff {w : World} {g o n : Nat} : canAt w ⟨g, o, none⟩ n = true ↔ w.there g o n := by
  unfold canAt World.there
  simp only [List.all_eq_true, List.mem_range, addr_lit, Bool.and_eq_true, Bool.not_eq_true']

section
variable {w w' : World} {a : Addr} {n : Nat}
theorem rowAt_keep (h : ∀ p : Addr, p.block = a.block → w'.cell? p = w.cell? p) : rowAt w' a n = rowAt w a n := by
  unfold rowAt; congr 1; funext j; exact h _ (addr_block _ _)
theorem canAt_keep (h : ∀ p : Addr, p.block = a.block → w'.cell? p = w.cell? p) (hf : ∀ p : Addr, p.block = a.block → w'.frozen? p = w.frozen? p) : canAt w' a n = canAt w a n := by
  unfold canAt; congr 1; funext j; rw [h _ (addr_block _ _), hf _ (addr_block _ _)]
@[go_sem] theorem rowAt_drew : rowAt w.drew a n = rowAt w a n := rfl
@[go_sem] theorem rowAt_drewN (k : Nat) : rowAt (w.drewN k) a n = rowAt w a n := rfl
@[go_sem] theorem canAt_drew : canAt w.drew a n = canAt w a n := rfl
@[go_sem] theorem canAt_drewN (k : Nat) : canAt (w.drewN k) a n = canAt w a n := rfl
@[go_sem] theorem rowAt_alloc (o : Obj) (h : a.block < w.heap.size) : rowAt (w.alloc o) a n = rowAt w a n :=
  rowAt_keep fun p hp => World.cell?_alloc_lt w o p (by omega)
@[go_sem] theorem canAt_alloc (o : Obj) (h : a.block < w.heap.size) : canAt (w.alloc o) a n = canAt w a n :=
  canAt_keep (fun p hp => World.cell?_of_block (Below.heap_alloc w o _ (by omega))) (fun p hp => World.frozen?_of_block (Below.heap_alloc w o _ (by omega)))
theorem rowAt_below {B : Nat} (hb : Below B w w') (h : a.block < B) : rowAt w' a n = rowAt w a n := rowAt_keep fun p hp => hb.cell (by omega)
theorem rowAt_far {p : Addr} (u : Value) (h : a.block ≠ p.block) : rowAt (w.setCell p u) a n = rowAt w a n :=
  rowAt_keep fun q hq => World.cell?_of_block (Below.heap_setCell w p u _ (by omega))
end

theorem heap_setCells (g : Nat) : ∀ (vs : List Value) (o : Nat) (w : World) (k : Nat), k ≠ g → (w.setCells g o vs).heap[k]? = w.heap[k]?
  | [], _, _, _, _ => rfl
  | v :: r, o, w, k, h => (heap_setCells g r (o + 1) _ k h).trans (Below.heap_setCell w ⟨g, o, none⟩ v k h)
theorem size_setCells (g : Nat) : ∀ (vs : List Value) (o : Nat) (w : World), (w.setCells g o vs).heap.size = w.heap.size
  | [], _, _ => rfl
  | v :: r, o, w => (size_setCells g r (o + 1) _).trans (by simp [World.setCell])
theorem below_setCells {B g : Nat} {a : World} (hg : B ≤ g) : ∀ (vs : List Value) (o : Nat) {w : World}, Below B a w → Below B a (w.setCells g o vs)
  | [], _, _, h => h
  | v :: r, o, _, h => below_setCells hg r (o + 1) (h.setCell (p := ⟨g, o, none⟩) hg v)
@[simp, go_sem] theorem size_putAt (w : World) (a : Addr) (cs : List Value) : (putAt w a cs).heap.size = w.heap.size := size_setCells _ _ _ _
theorem below_putAt {B : Nat} {v w : World} (h : Below B v w) {a : Addr} (ha : B ≤ a.block) (cs : List Value) : Below B v (putAt w a cs) := below_setCells ha _ _ h

section
variable {w : World} {g : Nat} {t : TypeId} {cs : List Value}
theorem Bk.row (h : Bk w g t cs) {o n : Nat} (hn : o + n ≤ cs.length) : rowAt w ⟨g, o, none⟩ n = some ((cs.drop o).take n) :=
  rowAt_iff.2 ⟨by simp; omega, fun j u hj => by
    rw [List.getElem?_take] at hj
    split at hj
    · rw [List.getElem?_drop] at hj; exact h.at_ hj
    · cases hj⟩
theorem Bk.rows (h : Bk w g t cs) : rowAt w ⟨g, 0, none⟩ cs.length = some cs := by
  rw [h.row (by omega)]; simp
theorem Bk.can (h : Bk w g t cs) {o n : Nat} (hn : o + n ≤ cs.length) : canAt w ⟨g, o, none⟩ n = true :=
  canAt_iff.2 fun j hj => ⟨by rw [h.cell, List.getElem?_eq_getElem (by omega)]; rfl, h.frozen _⟩
theorem Bk.setCells : ∀ (vs : List Value) (o : Nat) {w : World} {cs : List Value}, Bk w g t cs → o + vs.length ≤ cs.length → Bk (w.setCells g o vs) g t (cs.take o ++ vs ++ cs.drop (o + vs.length))
  | [], o, w, cs, h, _ => by simpa [World.setCells] using h
  | v :: r, o, w, cs, h, hl => by
    have hl' : o + (r.length + 1) ≤ cs.length := by simpa using hl
    have h1 := Bk.setCells r (o + 1) (h.set_ o v) (by simp; omega)
    have e : (cs.set o v).take (o + 1) ++ r ++ (cs.set o v).drop (o + 1 + r.length) = cs.take o ++ v :: r ++ cs.drop (o + (v :: r).length) := by
      rw [List.drop_set_of_lt (by omega)]
      have : (cs.set o v).take (o + 1) = cs.take o ++ [v] := by
        rw [List.take_add_one, List.take_set_of_le (by omega)]
        simp [show o < cs.length by omega]
      rw [this]
      simp [Nat.add_assoc, Nat.add_comm 1]
    rw [e] at h1
    exact h1
theorem Bk.put (h : Bk w g t cs) {o : Nat} {vs : List Value} (hl : o + vs.length ≤ cs.length) : Bk (putAt w ⟨g, o, none⟩ vs) g t (cs.take o ++ vs ++ cs.drop (o + vs.length)) := Bk.setCells vs o h hl
theorem Bk.puts (h : Bk w g t cs) {vs : List Value} (hl : vs.length = cs.length) : Bk (putAt w ⟨g, 0, none⟩ vs) g t vs := by
  have := h.put (o := 0) (vs := vs) (by omega)
  simpa [hl] using this
theorem Bk.putFar (h : Bk w g t cs) {p : Addr} (hp : g ≠ p.block) (vs : List Value) : Bk (putAt w p vs) g t cs := (heap_setCells _ _ _ _ _ hp).trans h
end
theorem Mid.putAt {lo hi : Nat} {a w : World} (h : Mid lo hi a w) {p : Addr} (hp : p.block < lo ∨ hi ≤ p.block) (vs : List Value) : Mid lo hi a (putAt w p vs) := fun k h1 h2 => (heap_setCells _ _ _ _ _ (by omega)).trans (h k h1 h2)

section
variable (k : IntKind) (n : Int) (b : Bool) (s : ByteArray) (p : Option Addr) (l c : Nat) (t : TypeId) (v : Value) (r : Option Nat)
@[go_sem] theorem one_int : (Value.int k n).oneCell' = true := rfl
@[go_sem] theorem one_bool : (Value.bool b).oneCell' = true := rfl
@[go_sem] theorem one_string : (Value.string s).oneCell' = true := rfl
@[go_sem] theorem one_pointer : (Value.pointer p).oneCell' = true := rfl
@[go_sem] theorem one_slice : (Value.slice p l c).oneCell' = true := rfl
@[go_sem] theorem one_map : (Value.map r).oneCell' = true := rfl
@[go_sem] theorem one_iface : (Value.iface t v).oneCell' = true := rfl
@[go_sem] theorem one_nilIface : Value.nilIface.oneCell' = true := rfl
end

/-! ### The operations -/
/-- The operation as the model runs it, behind a name. -/
def rawOp (P : Program) (ρ : Operand → Value) (o : Oper) (w : World) : Result Next := (execOp ρ o).run P w
def loadOp (n : Nat) (w : World) (raw : Result Next) : Value → Result Next
  | .pointer (some a) => (rowAt w a n).elim raw (fun cs => .ok (.value (.agg cs.toArray)) w)
  | _ => raw
@[go_sem] theorem loadOp_at (n : Nat) (w : World) (raw : Result Next) (a : Addr) : loadOp n w raw (.pointer (some a)) = (rowAt w a n).elim raw (fun cs => .ok (.value (.agg cs.toArray)) w) := rfl
def storeOp (n : Nat) (w : World) (raw : Result Next) : Value → Value → Result Next
  | .pointer (some a), .agg cs => if cs.size = n ∧ cs.all (·.oneCell') = true ∧ canAt w a n = true then .ok .skip (putAt w a cs.toList) else raw
  | _, _ => raw
@[go_sem] theorem storeOp_at (n : Nat) (w : World) (raw : Result Next) (a : Addr) (cs : Array Value) : storeOp n w raw (.pointer (some a)) (.agg cs) =
    if cs.size = n ∧ cs.all (·.oneCell') = true ∧ canAt w a n = true then .ok .skip (putAt w a cs.toList) else raw := rfl

section
variable {P : Program} (w : World) (ρ : Operand → Value) (dst : Option Tmp) (ty : TypeId) (pos : String) (after : Array Edge) (guard : Option (Nat × Bool))
theorem spot_none {w : World} {a : Addr} {n : Nat} {cs : List Value} (hn : 0 < n) (h : rowAt w a n = some cs) : a.spot = none := by
  have h1 := ((mapM_range (fun j => w.cell? (a.add j)) n cs).1 h)
  have hc : cs[0]? = some cs[0] := List.getElem?_eq_getElem (by omega)
  have := h1.2 0 _ hc
  have h2 : w.cell? a = some cs[0] := by simpa [Addr.add] using this
  exact World.cell?_spot h2
theorem exec_load (t n : TypeId) (d : TypeDesc) (x : Operand) (hn : 0 < n) (hu : P.underlying t = some d) (hd : d.isRow = true) (hi : (P.info? t).map (·.size) = some n) :
    (execOp ρ { dst, op := .load t x, type := ty, pos, after, guard }).run P w = loadOp n w (rawOp P ρ { dst, op := .load t x, type := ty, pos, after, guard } w) (ρ x) := by
  generalize hv : ρ x = v
  unfold loadOp
  split
  · rename_i a
    cases hr : rowAt w a n with
    | none => rfl
    | some cs =>
      have hs := spot_none hn hr
      obtain ⟨g, o, s⟩ := a
      simp only at hs
      subst hs
      obtain ⟨hl, hc⟩ := rowAt_iff.1 hr
      have h1 := run_loadAt_mid (P := P) w g o t cs d hc hu hd (by rw [hi, hl])
      unfold execOp
      simp only [hv, Sem.run_bind, h1, Result.andThen_ok, Option.elim_some]
      rfl
  · rfl
theorem exec_store (t n : TypeId) (x y : Operand) (hn : 0 < n) (hi : (P.info? t).map (·.size) = some n) :
    (execOp ρ { dst, op := .store t x y, type := ty, pos, after, guard }).run P w = storeOp n w (rawOp P ρ { dst, op := .store t x y, type := ty, pos, after, guard } w) (ρ x) (ρ y) := by
  generalize hv : ρ x = v
  generalize hz : ρ y = z
  unfold storeOp
  split
  · rename_i a cs
    by_cases hc : cs.size = n ∧ cs.all (·.oneCell') = true ∧ canAt w a n = true
    · rw [if_pos hc]
      obtain ⟨h1, h2, h3⟩ := hc
      have hs : a.spot = none := by
        have h4 : (w.cell? (a.add 0)).isSome = true := by
          unfold canAt at h3
          have := List.all_eq_true.1 h3 0 (List.mem_range.2 hn)
          simp only [Bool.and_eq_true] at this
          exact this.1
        cases h5 : w.cell? (a.add 0) with
        | none => rw [h5] at h4; cases h4
        | some u => exact World.cell?_spot (by simpa [Addr.add] using h5)
      obtain ⟨g, o, s⟩ := a
      simp only at hs
      subst hs
      have h6 := run_storeAt_mid (P := P) w g o t cs (by rw [h1]; exact canAt_iff.1 h3) (by rw [hi, h1]) h2
      unfold execOp
      simp only [hv, hz, Sem.run_bind, h6, Result.andThen_ok]
      rfl
    · rw [if_neg hc]; rfl
  · rfl
theorem exec_alloc (t : TypeId) (z : Value) (hi : ((P.info? t).bind (·.zero)) = some z) :
    (execOp ρ { dst, op := .alloc t, type := ty, pos, after, guard }).run P w = .ok (.value (.pointer (some ⟨w.heap.size, 0, none⟩))) (w.alloc (.cells z.cells t)) := by
  cases hq : P.info? t with
  | none => simp [hq] at hi
  | some i =>
    have hz : i.zero = some z := by simpa [hq] using hi
    simp [execOp, Instr.alloc, zeroValue, typeInfo, hq, hz, newVar, newRow]
end
end Go.Proofs.Ytlegpkdighoflaa
namespace Go.Proofs.Ytlegpkdighoflaa
open Go Go.RowKit

def c8 (l : List UInt8) : List Value := l.map v8
def A8 (l : List UInt8) : Value := .agg (c8 l).toArray
def z8 (k : Nat) : List UInt8 := List.replicate k 0
@[simp, go_sem] theorem length_z8 (k : Nat) : (z8 k).length = k := by simp [z8]
@[simp, go_sem] theorem length_c8 (l : List UInt8) : (c8 l).length = l.length := by simp [c8]
theorem c8_at {l : List UInt8} {i : Nat} (h : i < l.length) : (c8 l)[i]? = some (.int .u8 (n8 (Sh.g8 l i))) := by
  unfold c8; rw [List.getElem?_map, List.getElem?_eq_getElem h]; simp [h, v8, Sh.g8]
theorem c8_set (l : List UInt8) (i : Nat) (x : UInt8) : (c8 l).set i (.int .u8 (n8 x)) = c8 (l.set i x) := by
  show (l.map v8).set i (v8 x) = (l.set i x).map v8
  rw [List.map_set]
@[go_sem] theorem fold_A8 (l : List UInt8) : Value.agg (c8 l).toArray = A8 l := rfl
theorem one_c8 (l : List UInt8) : (c8 l).toArray.all (·.oneCell') = true := by simp [c8, v8, Value.oneCell']
@[go_sem] theorem storeOp_A8 (n : Nat) (w : World) (raw : Result Next) (a : Addr) (l : List UInt8) : storeOp n w raw (.pointer (some a)) (A8 l) =
    if l.length = n ∧ canAt w a n = true then .ok .skip (putAt w a (c8 l)) else raw := by
  have e : storeOp n w raw (.pointer (some a)) (A8 l) = if (c8 l).toArray.size = n ∧ (c8 l).toArray.all (·.oneCell') = true ∧ canAt w a n = true then .ok .skip (putAt w a (c8 l).toArray.toList) else raw := rfl
  rw [e, one_c8]
  simp only [List.size_toArray, length_c8, true_and]
def idx8 (n : Nat) (w : World) (raw : Result Next) : Value → Value → Result Next
  | .agg cs, .int _ i => if 0 ≤ i ∧ i < n ∧ cs.size = n ∧ (cs[i.toNat]?).isSome then .ok (.value (cs[i.toNat]?.getD undef)) w else raw
  | _, _ => raw
@[go_sem] theorem idx8_A (n : Nat) (w : World) (raw : Result Next) (k : IntKind) (i : Int) (l : List UInt8) : idx8 n w raw (A8 l) (.int k i) =
    if 0 ≤ i ∧ i < n ∧ l.length = n then .ok (.value (.int .u8 (n8 (Sh.g8 l i.toNat)))) w else raw := by
  have e : idx8 n w raw (A8 l) (.int k i) = if 0 ≤ i ∧ i < n ∧ (c8 l).toArray.size = n ∧ ((c8 l).toArray[i.toNat]?).isSome then .ok (.value ((c8 l).toArray[i.toNat]?.getD undef)) w else raw := rfl
  rw [e]
  unfold c8
  by_cases h : 0 ≤ i ∧ i < n ∧ l.length = n
  · have hl : i.toNat < l.length := by omega
    rw [if_pos h, if_pos (by simp; omega)]
    simp [hl, v8, Sh.g8]
  · rw [if_neg h, if_neg (fun hh => h ⟨hh.1, hh.2.1, by simpa using hh.2.2.1⟩)]
theorem exec_index8 {P : Program} (w : World) (ρ : Operand → Value) (dst : Option Tmp) (ty : TypeId) (pos : String) (after : Array Edge) (guard : Option (Nat × Bool))
    (t e n : TypeId) (x ix : Operand) (hu : P.underlying t = some (.array n e)) (ha : (match P.underlying e with | some (.int _) => true | _ => false) = true) (hi : (P.info? e).map (·.size) = some 1) :
    (execOp ρ { dst, op := .index t x ix, type := ty, pos, after, guard }).run P w = idx8 n w (rawOp P ρ { dst, op := .index t x ix, type := ty, pos, after, guard } w) (ρ x) (ρ ix) := by
  generalize hv : ρ x = v
  generalize hz : ρ ix = z
  unfold idx8
  split
  · rename_i cs kk i
    split
    · rename_i hc
      obtain ⟨h1, h2, h3, h4⟩ := hc
      cases hp : P.underlying e with
      | none => simp [hp] at ha
      | some d =>
        cases d <;> simp [hp] at ha
        cases hq : P.info? e with
        | none => simp [hq] at hi
        | some j =>
          have hj : j.size = 1 := by simpa [hq] using hi
          cases hcs : cs[i.toNat]? with
          | none => rw [hcs] at h4; cases h4
          | some u => simp [execOp, hv, hz, Instr.index, run_underlying hu, asIntOf, h1, h2, sizeOf, typeInfo, hq, hj, part, isAgg, run_underlying hp, hcs]
    · rfl
  · rfl

def c32 (l : List UInt32) : List Value := l.map v32
def A32 (l : List UInt32) : Value := .agg (c32 l).toArray
def z32 (k : Nat) : List UInt32 := List.replicate k 0
@[simp, go_sem] theorem length_z32 (k : Nat) : (z32 k).length = k := by simp [z32]
@[simp, go_sem] theorem length_c32 (l : List UInt32) : (c32 l).length = l.length := by simp [c32]
theorem c32_at {l : List UInt32} {i : Nat} (h : i < l.length) : (c32 l)[i]? = some (.int .u32 (n32 (Sh.g32 l i))) := by
  unfold c32; rw [List.getElem?_map, List.getElem?_eq_getElem h]; simp [h, v32, Sh.g32]
theorem c32_set (l : List UInt32) (i : Nat) (x : UInt32) : (c32 l).set i (.int .u32 (n32 x)) = c32 (l.set i x) := by
  show (l.map v32).set i (v32 x) = (l.set i x).map v32
  rw [List.map_set]
@[go_sem] theorem fold_A32 (l : List UInt32) : Value.agg (c32 l).toArray = A32 l := rfl
theorem one_c32 (l : List UInt32) : (c32 l).toArray.all (·.oneCell') = true := by simp [c32, v32, Value.oneCell']
@[go_sem] theorem storeOp_A32 (n : Nat) (w : World) (raw : Result Next) (a : Addr) (l : List UInt32) : storeOp n w raw (.pointer (some a)) (A32 l) =
    if l.length = n ∧ canAt w a n = true then .ok .skip (putAt w a (c32 l)) else raw := by
  have e : storeOp n w raw (.pointer (some a)) (A32 l) = if (c32 l).toArray.size = n ∧ (c32 l).toArray.all (·.oneCell') = true ∧ canAt w a n = true then .ok .skip (putAt w a (c32 l).toArray.toList) else raw := rfl
  rw [e, one_c32]
  simp only [List.size_toArray, length_c32, true_and]
def idx32 (n : Nat) (w : World) (raw : Result Next) : Value → Value → Result Next
  | .agg cs, .int _ i => if 0 ≤ i ∧ i < n ∧ cs.size = n ∧ (cs[i.toNat]?).isSome then .ok (.value (cs[i.toNat]?.getD undef)) w else raw
  | _, _ => raw
@[go_sem] theorem idx32_A (n : Nat) (w : World) (raw : Result Next) (k : IntKind) (i : Int) (l : List UInt32) : idx32 n w raw (A32 l) (.int k i) =
    if 0 ≤ i ∧ i < n ∧ l.length = n then .ok (.value (.int .u32 (n32 (Sh.g32 l i.toNat)))) w else raw := by
  have e : idx32 n w raw (A32 l) (.int k i) = if 0 ≤ i ∧ i < n ∧ (c32 l).toArray.size = n ∧ ((c32 l).toArray[i.toNat]?).isSome then .ok (.value ((c32 l).toArray[i.toNat]?.getD undef)) w else raw := rfl
  rw [e]
  unfold c32
  by_cases h : 0 ≤ i ∧ i < n ∧ l.length = n
  · have hl : i.toNat < l.length := by omega
    rw [if_pos h, if_pos (by simp; omega)]
    simp [hl, v32, Sh.g32]
  · rw [if_neg h, if_neg (fun hh => h ⟨hh.1, hh.2.1, by simpa using hh.2.2.1⟩)]
theorem exec_index32 {P : Program} (w : World) (ρ : Operand → Value) (dst : Option Tmp) (ty : TypeId) (pos : String) (after : Array Edge) (guard : Option (Nat × Bool))
    (t e n : TypeId) (x ix : Operand) (hu : P.underlying t = some (.array n e)) (ha : (match P.underlying e with | some (.int _) => true | _ => false) = true) (hi : (P.info? e).map (·.size) = some 1) :
    (execOp ρ { dst, op := .index t x ix, type := ty, pos, after, guard }).run P w = idx32 n w (rawOp P ρ { dst, op := .index t x ix, type := ty, pos, after, guard } w) (ρ x) (ρ ix) := by
  generalize hv : ρ x = v
  generalize hz : ρ ix = z
  unfold idx32
  split
  · rename_i cs kk i
    split
    · rename_i hc
      obtain ⟨h1, h2, h3, h4⟩ := hc
      cases hp : P.underlying e with
      | none => simp [hp] at ha
      | some d =>
        cases d <;> simp [hp] at ha
        cases hq : P.info? e with
        | none => simp [hq] at hi
        | some j =>
          have hj : j.size = 1 := by simpa [hq] using hi
          cases hcs : cs[i.toNat]? with
          | none => rw [hcs] at h4; cases h4
          | some u => simp [execOp, hv, hz, Instr.index, run_underlying hu, asIntOf, h1, h2, sizeOf, typeInfo, hq, hj, part, isAgg, run_underlying hp, hcs]
    · rfl
  · rfl

def c64 (l : List UInt64) : List Value := l.map v64
def A64 (l : List UInt64) : Value := .agg (c64 l).toArray
def z64 (k : Nat) : List UInt64 := List.replicate k 0
@[simp, go_sem] theorem length_z64 (k : Nat) : (z64 k).length = k := by simp [z64]
@[simp, go_sem] theorem length_c64 (l : List UInt64) : (c64 l).length = l.length := by simp [c64]
theorem c64_at {l : List UInt64} {i : Nat} (h : i < l.length) : (c64 l)[i]? = some (.int .u64 (n64 (Sh.g64 l i))) := by
  unfold c64; rw [List.getElem?_map, List.getElem?_eq_getElem h]; simp [h, v64, Sh.g64]
theorem c64_set (l : List UInt64) (i : Nat) (x : UInt64) : (c64 l).set i (.int .u64 (n64 x)) = c64 (l.set i x) := by
  show (l.map v64).set i (v64 x) = (l.set i x).map v64
  rw [List.map_set]
@[go_sem] theorem fold_A64 (l : List UInt64) : Value.agg (c64 l).toArray = A64 l := rfl
theorem one_c64 (l : List UInt64) : (c64 l).toArray.all (·.oneCell') = true := by simp [c64, v64, Value.oneCell']
@[go_sem] theorem storeOp_A64 (n : Nat) (w : World) (raw : Result Next) (a : Addr) (l : List UInt64) : storeOp n w raw (.pointer (some a)) (A64 l) =
    if l.length = n ∧ canAt w a n = true then .ok .skip (putAt w a (c64 l)) else raw := by
  have e : storeOp n w raw (.pointer (some a)) (A64 l) = if (c64 l).toArray.size = n ∧ (c64 l).toArray.all (·.oneCell') = true ∧ canAt w a n = true then .ok .skip (putAt w a (c64 l).toArray.toList) else raw := rfl
  rw [e, one_c64]
  simp only [List.size_toArray, length_c64, true_and]
def idx64 (n : Nat) (w : World) (raw : Result Next) : Value → Value → Result Next
  | .agg cs, .int _ i => if 0 ≤ i ∧ i < n ∧ cs.size = n ∧ (cs[i.toNat]?).isSome then .ok (.value (cs[i.toNat]?.getD undef)) w else raw
  | _, _ => raw
@[go_sem] theorem idx64_A (n : Nat) (w : World) (raw : Result Next) (k : IntKind) (i : Int) (l : List UInt64) : idx64 n w raw (A64 l) (.int k i) =
    if 0 ≤ i ∧ i < n ∧ l.length = n then .ok (.value (.int .u64 (n64 (Sh.g64 l i.toNat)))) w else raw := by
  have e : idx64 n w raw (A64 l) (.int k i) = if 0 ≤ i ∧ i < n ∧ (c64 l).toArray.size = n ∧ ((c64 l).toArray[i.toNat]?).isSome then .ok (.value ((c64 l).toArray[i.toNat]?.getD undef)) w else raw := rfl
  rw [e]
  unfold c64
  by_cases h : 0 ≤ i ∧ i < n ∧ l.length = n
  · have hl : i.toNat < l.length := by omega
    rw [if_pos h, if_pos (by simp; omega)]
    simp [hl, v64, Sh.g64]
  · rw [if_neg h, if_neg (fun hh => h ⟨hh.1, hh.2.1, by simpa using hh.2.2.1⟩)]
theorem exec_index64 {P : Program} (w : World) (ρ : Operand → Value) (dst : Option Tmp) (ty : TypeId) (pos : String) (after : Array Edge) (guard : Option (Nat × Bool))
    (t e n : TypeId) (x ix : Operand) (hu : P.underlying t = some (.array n e)) (ha : (match P.underlying e with | some (.int _) => true | _ => false) = true) (hi : (P.info? e).map (·.size) = some 1) :
    (execOp ρ { dst, op := .index t x ix, type := ty, pos, after, guard }).run P w = idx64 n w (rawOp P ρ { dst, op := .index t x ix, type := ty, pos, after, guard } w) (ρ x) (ρ ix) := by
  generalize hv : ρ x = v
  generalize hz : ρ ix = z
  unfold idx64
  split
  · rename_i cs kk i
    split
    · rename_i hc
      obtain ⟨h1, h2, h3, h4⟩ := hc
      cases hp : P.underlying e with
      | none => simp [hp] at ha
      | some d =>
        cases d <;> simp [hp] at ha
        cases hq : P.info? e with
        | none => simp [hq] at hi
        | some j =>
          have hj : j.size = 1 := by simpa [hq] using hi
          cases hcs : cs[i.toNat]? with
          | none => rw [hcs] at h4; cases h4
          | some u => simp [execOp, hv, hz, Instr.index, run_underlying hu, asIntOf, h1, h2, sizeOf, typeInfo, hq, hj, part, isAgg, run_underlying hp, hcs]
    · rfl
  · rfl

@[go_sem] theorem rowAt_new (w : World) (cs : List Value) (t n : Nat) (h : cs.length = n) : rowAt (w.alloc (.cells cs.toArray t)) ⟨w.heap.size, 0, none⟩ n = some cs := by
  subst h; exact (Bk.new w t cs).rows
@[go_sem] theorem canAt_new (w : World) (cs : List Value) (t n : Nat) (h : cs.length = n) : canAt (w.alloc (.cells cs.toArray t)) ⟨w.heap.size, 0, none⟩ n = true := by
  subst h; exact (Bk.new w t cs).can (by omega)


theorem info_h32 : (Try.prog.info? 24).map (·.size) = some 32 := by kernel_rfl
theorem zero_h32 : ((Try.prog.info? 24).bind (·.zero)) = some (A8 (z8 32)) := by kernel_rfl
section
variable (w : World) (ρ : Operand → Value) (dst : Option Tmp) (ty : TypeId) (pos : String) (after : Array Edge) (guard : Option (Nat × Bool))
@[go_sem ↓ high] theorem load_h32 (x : Operand) :
    (execOp ρ { dst, op := .load 24 x, type := ty, pos, after, guard }).run Try.prog w = loadOp 32 w (rawOp Try.prog ρ { dst, op := .load 24 x, type := ty, pos, after, guard } w) (ρ x) :=
  exec_load w ρ dst ty pos after guard 24 32 _ x (by decide) Try.underlying24 rfl info_h32
@[go_sem ↓ high] theorem store_h32 (x y : Operand) :
    (execOp ρ { dst, op := .store 24 x y, type := ty, pos, after, guard }).run Try.prog w = storeOp 32 w (rawOp Try.prog ρ { dst, op := .store 24 x y, type := ty, pos, after, guard } w) (ρ x) (ρ y) :=
  exec_store w ρ dst ty pos after guard 24 32 x y (by decide) info_h32
@[go_sem ↓ high] theorem alloc_h32 :
    (execOp ρ { dst, op := .alloc 24, type := ty, pos, after, guard }).run Try.prog w = .ok (.value (.pointer (some ⟨w.heap.size, 0, none⟩))) (w.alloc (.cells (c8 (z8 32)).toArray 24)) :=
  exec_alloc w ρ dst ty pos after guard 24 (A8 (z8 32)) zero_h32
@[go_sem ↓ high] theorem index_h32 (x ix : Operand) :
    (execOp ρ { dst, op := .index 24 x ix, type := ty, pos, after, guard }).run Try.prog w = idx8 32 w (rawOp Try.prog ρ { dst, op := .index 24 x ix, type := ty, pos, after, guard } w) (ρ x) (ρ ix) :=
  exec_index8 w ρ dst ty pos after guard 24 _ 32 x ix Try.underlying24 (by kernel_rfl) (by kernel_rfl)
end


section
variable (w : World) (ρ : Operand → Value) (dst : Option Tmp) (ty : TypeId) (pos : String) (after : Array Edge) (guard : Option (Nat × Bool))
end


theorem info_w8 : (Try.prog.info? 111).map (·.size) = some 8 := by kernel_rfl
theorem zero_w8 : ((Try.prog.info? 111).bind (·.zero)) = some (A32 (z32 8)) := by kernel_rfl
section
variable (w : World) (ρ : Operand → Value) (dst : Option Tmp) (ty : TypeId) (pos : String) (after : Array Edge) (guard : Option (Nat × Bool))
@[go_sem ↓ high] theorem load_w8 (x : Operand) :
    (execOp ρ { dst, op := .load 111 x, type := ty, pos, after, guard }).run Try.prog w = loadOp 8 w (rawOp Try.prog ρ { dst, op := .load 111 x, type := ty, pos, after, guard } w) (ρ x) :=
  exec_load w ρ dst ty pos after guard 111 8 _ x (by decide) Try.underlying111 rfl info_w8
@[go_sem ↓ high] theorem store_w8 (x y : Operand) :
    (execOp ρ { dst, op := .store 111 x y, type := ty, pos, after, guard }).run Try.prog w = storeOp 8 w (rawOp Try.prog ρ { dst, op := .store 111 x y, type := ty, pos, after, guard } w) (ρ x) (ρ y) :=
  exec_store w ρ dst ty pos after guard 111 8 x y (by decide) info_w8
@[go_sem ↓ high] theorem alloc_w8 :
    (execOp ρ { dst, op := .alloc 111, type := ty, pos, after, guard }).run Try.prog w = .ok (.value (.pointer (some ⟨w.heap.size, 0, none⟩))) (w.alloc (.cells (c32 (z32 8)).toArray 111)) :=
  exec_alloc w ρ dst ty pos after guard 111 (A32 (z32 8)) zero_w8
@[go_sem ↓ high] theorem index_w8 (x ix : Operand) :
    (execOp ρ { dst, op := .index 111 x ix, type := ty, pos, after, guard }).run Try.prog w = idx32 8 w (rawOp Try.prog ρ { dst, op := .index 111 x ix, type := ty, pos, after, guard } w) (ρ x) (ρ ix) :=
  exec_index32 w ρ dst ty pos after guard 111 _ 8 x ix Try.underlying111 (by kernel_rfl) (by kernel_rfl)
end


theorem info_w64 : (Try.prog.info? 116).map (·.size) = some 64 := by kernel_rfl
theorem zero_w64 : ((Try.prog.info? 116).bind (·.zero)) = some (A32 (z32 64)) := by kernel_rfl
section
variable (w : World) (ρ : Operand → Value) (dst : Option Tmp) (ty : TypeId) (pos : String) (after : Array Edge) (guard : Option (Nat × Bool))
@[go_sem ↓ high] theorem load_w64 (x : Operand) :
    (execOp ρ { dst, op := .load 116 x, type := ty, pos, after, guard }).run Try.prog w = loadOp 64 w (rawOp Try.prog ρ { dst, op := .load 116 x, type := ty, pos, after, guard } w) (ρ x) :=
  exec_load w ρ dst ty pos after guard 116 64 _ x (by decide) Try.underlying116 rfl info_w64
@[go_sem ↓ high] theorem store_w64 (x y : Operand) :
    (execOp ρ { dst, op := .store 116 x y, type := ty, pos, after, guard }).run Try.prog w = storeOp 64 w (rawOp Try.prog ρ { dst, op := .store 116 x y, type := ty, pos, after, guard } w) (ρ x) (ρ y) :=
  exec_store w ρ dst ty pos after guard 116 64 x y (by decide) info_w64
@[go_sem ↓ high] theorem alloc_w64 :
    (execOp ρ { dst, op := .alloc 116, type := ty, pos, after, guard }).run Try.prog w = .ok (.value (.pointer (some ⟨w.heap.size, 0, none⟩))) (w.alloc (.cells (c32 (z32 64)).toArray 116)) :=
  exec_alloc w ρ dst ty pos after guard 116 (A32 (z32 64)) zero_w64
@[go_sem ↓ high] theorem index_w64 (x ix : Operand) :
    (execOp ρ { dst, op := .index 116 x ix, type := ty, pos, after, guard }).run Try.prog w = idx32 64 w (rawOp Try.prog ρ { dst, op := .index 116 x ix, type := ty, pos, after, guard } w) (ρ x) (ρ ix) :=
  exec_index32 w ρ dst ty pos after guard 116 _ 64 x ix Try.underlying116 (by kernel_rfl) (by kernel_rfl)
end


theorem info_d8 : (Try.prog.info? 112).map (·.size) = some 8 := by kernel_rfl
theorem zero_d8 : ((Try.prog.info? 112).bind (·.zero)) = some (A64 (z64 8)) := by kernel_rfl
section
variable (w : World) (ρ : Operand → Value) (dst : Option Tmp) (ty : TypeId) (pos : String) (after : Array Edge) (guard : Option (Nat × Bool))
@[go_sem ↓ high] theorem load_d8 (x : Operand) :
    (execOp ρ { dst, op := .load 112 x, type := ty, pos, after, guard }).run Try.prog w = loadOp 8 w (rawOp Try.prog ρ { dst, op := .load 112 x, type := ty, pos, after, guard } w) (ρ x) :=
  exec_load w ρ dst ty pos after guard 112 8 _ x (by decide) Try.underlying112 rfl info_d8
@[go_sem ↓ high] theorem store_d8 (x y : Operand) :
    (execOp ρ { dst, op := .store 112 x y, type := ty, pos, after, guard }).run Try.prog w = storeOp 8 w (rawOp Try.prog ρ { dst, op := .store 112 x y, type := ty, pos, after, guard } w) (ρ x) (ρ y) :=
  exec_store w ρ dst ty pos after guard 112 8 x y (by decide) info_d8
@[go_sem ↓ high] theorem alloc_d8 :
    (execOp ρ { dst, op := .alloc 112, type := ty, pos, after, guard }).run Try.prog w = .ok (.value (.pointer (some ⟨w.heap.size, 0, none⟩))) (w.alloc (.cells (c64 (z64 8)).toArray 112)) :=
  exec_alloc w ρ dst ty pos after guard 112 (A64 (z64 8)) zero_d8
@[go_sem ↓ high] theorem index_d8 (x ix : Operand) :
    (execOp ρ { dst, op := .index 112 x ix, type := ty, pos, after, guard }).run Try.prog w = idx64 8 w (rawOp Try.prog ρ { dst, op := .index 112 x ix, type := ty, pos, after, guard } w) (ρ x) (ρ ix) :=
  exec_index64 w ρ dst ty pos after guard 112 _ 8 x ix Try.underlying112 (by kernel_rfl) (by kernel_rfl)
end


theorem info_d80 : (Try.prog.info? 114).map (·.size) = some 80 := by kernel_rfl
theorem zero_d80 : ((Try.prog.info? 114).bind (·.zero)) = some (A64 (z64 80)) := by kernel_rfl
section
variable (w : World) (ρ : Operand → Value) (dst : Option Tmp) (ty : TypeId) (pos : String) (after : Array Edge) (guard : Option (Nat × Bool))
@[go_sem ↓ high] theorem load_d80 (x : Operand) :
    (execOp ρ { dst, op := .load 114 x, type := ty, pos, after, guard }).run Try.prog w = loadOp 80 w (rawOp Try.prog ρ { dst, op := .load 114 x, type := ty, pos, after, guard } w) (ρ x) :=
  exec_load w ρ dst ty pos after guard 114 80 _ x (by decide) Try.underlying114 rfl info_d80
@[go_sem ↓ high] theorem store_d80 (x y : Operand) :
    (execOp ρ { dst, op := .store 114 x y, type := ty, pos, after, guard }).run Try.prog w = storeOp 80 w (rawOp Try.prog ρ { dst, op := .store 114 x y, type := ty, pos, after, guard } w) (ρ x) (ρ y) :=
  exec_store w ρ dst ty pos after guard 114 80 x y (by decide) info_d80
@[go_sem ↓ high] theorem alloc_d80 :
    (execOp ρ { dst, op := .alloc 114, type := ty, pos, after, guard }).run Try.prog w = .ok (.value (.pointer (some ⟨w.heap.size, 0, none⟩))) (w.alloc (.cells (c64 (z64 80)).toArray 114)) :=
  exec_alloc w ρ dst ty pos after guard 114 (A64 (z64 80)) zero_d80
@[go_sem ↓ high] theorem index_d80 (x ix : Operand) :
    (execOp ρ { dst, op := .index 114 x ix, type := ty, pos, after, guard }).run Try.prog w = idx64 80 w (rawOp Try.prog ρ { dst, op := .index 114 x ix, type := ty, pos, after, guard } w) (ρ x) (ρ ix) :=
  exec_index64 w ρ dst ty pos after guard 114 _ 80 x ix Try.underlying114 (by kernel_rfl) (by kernel_rfl)
end

end Go.Proofs.Ytlegpkdighoflaa
namespace Go.Proofs.Ytlegpkdighoflaa
open Go Go.RowKit

/-- The slice value v is the call's own (in a block from base on, or nil) and reads as these bytes. -/
def Own8 (w : World) (base : Nat) (v : Value) (l : List UInt8) : Prop := w.ownsRow base 5 1 v l.length (l.map v8)
theorem Own8.by_ {w : World} {base : Nat} {v : Value} {l : List UInt8} (h : Own8 w base v l) : By w base w.heap.size v l := Sl.of_own h
theorem Own8.nil (w : World) (base : Nat) : Own8 w base (.slice none 0 0) [] := World.ownsRow_nil w base _ _
theorem Own8.below {w w' : World} {base B : Nat} {v : Value} {l : List UInt8} (h : Own8 w base v l) (hb : Below B w w') (hB : w.heap.size ≤ B) : Own8 w' base v l := by
  refine World.ownsRow.kept (row := none) h ⟨hb.os, hb.tape, hb.output, hb.size, fun k hk _ => hb.block k (by omega)⟩ ?_
  cases hv : v.ownBlock <;> simp
theorem Own8.kept {w w' : World} {base : Nat} {v : Value} {l : List UInt8} {row : Option Nat} (h : Own8 w base v l) (hg : w.grownBy w' row) (hne : v.ownBlock = none ∨ v.ownBlock ≠ row) : Own8 w' base v l := World.ownsRow.kept h hg hne
theorem Own8.less {w : World} {base base' : Nat} {v : Value} {l : List UInt8} (h : Own8 w base v l) (hb : base' ≤ base) : Own8 w base' v l := by
  refine ⟨h.1, ?_⟩
  rcases h.2 with h2 | ⟨g, cap, cur, hv, hg, r⟩
  · exact .inl h2
  · exact .inr ⟨g, cap, cur, hv, by omega, r⟩
theorem Own8.alloc {w : World} {base : Nat} {v : Value} {l : List UInt8} (h : Own8 w base v l) (o : Obj) : Own8 (w.alloc o) base v l := World.ownsRow.alloc h o
theorem Own8.drewN {w : World} {base : Nat} {v : Value} {l : List UInt8} (h : Own8 w base v l) (n : Nat) : Own8 (w.drewN n) base v l := h
theorem Own8.form {w : World} {base : Nat} {v : Value} {l : List UInt8} (h : Own8 w base v l) : ∃ A c, v = .slice A l.length c ∧ l.length ≤ c ∧ c ≤ 9223372036854775807 := by
  obtain ⟨A, c, h1, h2, h3, _⟩ := h.by_.open_
  exact ⟨A, c, h1, h2, h3⟩

theorem Own8.take {w : World} {base : Nat} {A : Option Addr} {n c : Nat} {l : List UInt8} (h : Own8 w base (.slice A n c) l) {k : Nat} (hk : k ≤ l.length) : Own8 w base (.slice A k c) (l.take k) := by
  have hkl : (l.take k).length = k := by simp; omega
  refine ⟨by simp, ?_⟩
  rw [hkl]
  rcases h.2 with ⟨hv, hn⟩ | ⟨g, cap, cur, hv, hg, hh, hc, hm, hs, ht⟩
  · injection hv with e1 e2 e3
    have : k = 0 := by omega
    subst this; subst e1; subst e3
    exact .inl ⟨rfl, rfl⟩
  · injection hv with e1 e2 e3
    subst e1; subst e3
    refine .inr ⟨g, c, cur, rfl, hg, hh, by omega, hm, hs, ?_⟩
    rw [List.map_take, ← ht, List.take_take]
    congr 1
    omega

theorem info8 : (Try.prog.info? 5).map (fun i => (i.zero, i.size, i.bytes)) = some (some (.int .u8 0), 1, 1) := by kernel_rfl

section
variable (w : World) (base : Nat) (v : Value) (l : List UInt8)
theorem below_of_grown {w w' : World} {base : Nat} {v : Value} {l : List UInt8} (hown : Own8 w base v l) (hg : w.grownBy w' v.ownBlock) (hb : base ≤ w.heap.size) : Below base w w' :=
  (Below.refl _ _).grown hg hb fun k hk => (hown.lt k hk).1
theorem run_app8 (hown : Own8 w base v l) (x : Value) (m : List UInt8) (lo B : Nat) (hx : By w lo B x m) (hsz : l.length + m.length ≤ 70368744177664) (hb : base ≤ w.heap.size) (ty : TypeId) :
    ∃ v' w', (Builtin.append_ #[22, 22] ty #[v, x]).run Try.prog w = .ok v' w' ∧ Own8 w' base v' (l ++ m) ∧ w.grownBy w' v.ownBlock ∧ (v'.ownBlock = v.ownBlock ∨ v'.ownBlock = some w.heap.size) := by
  obtain ⟨i0, hi0, hz0, hz1, hz2⟩ := info_parts info8
  obtain ⟨A, c, rfl, h2, h3, h4⟩ := hx.open_
  have hone : ∀ u ∈ m.map v8, u.oneCell' = true := by intro u hu; obtain ⟨x, _, rfl⟩ := List.mem_map.1 hu; rfl
  have key : ∀ a : Addr, (∀ j u, (m.map v8)[j]? = some u → w.cell? (a.add j) = some u) → ∃ v' w', (Builtin.append_ #[22, 22] ty #[v, .slice (some a) m.length c]).run Try.prog w = .ok v' w' ∧ Own8 w' base v' (l ++ m) ∧ w.grownBy w' v.ownBlock ∧ (v'.ownBlock = v.ownBlock ∨ v'.ownBlock = some w.heap.size) := by
    intro a hc
    obtain ⟨v', w', h5, h6, h7, _, h8⟩ := run_append_own_at (P := Try.prog) w base 22 ty 5 i0 (.int .u8 0) 1 1 Try.underlying22 hi0 hz0 hz1 hz2 rfl (by decide) v l.length (l.map v8) hown a m.length c (m.map v8) (by simp) hc hone
      (by simp only [maxLen]; omega) (by omega) hb
    refine ⟨v', w', h5, ?_, h7, h8⟩
    unfold Own8
    rw [List.length_append, List.map_append]
    exact h6
  rcases h4 with h4 | ⟨g, o, rfl, _, _, hc⟩
  · have hm : m = [] := by simpa using h4
    subst hm
    cases A with
    | some a => exact key a (by simp)
    | none =>
      exact ⟨v, w, run_append_void w base _ ty _ i0 1 Try.underlying22 hi0 v _ _ hown c, by simpa using hown, World.grownBy.refl w _, .inl rfl⟩
  · exact key ⟨g, o, none⟩ (fun j u hj => by rw [addr_lit]; exact hc j u hj)

variable {ops : Array Oper} {rest : List Oper} {o : Oper} {a : Act} {Q : Exit → Act → World → Prop}
/-- append(s, x...) -/
theorem app8 (hgd : o.guard = none) (s x : Operand) (ho : o.op = .call { callee := .builtin .append, args := #[s, x], argTypes := #[22, 22] })
    (hs : a.eval s = v) (hown : Own8 w base v l) (y : Value) (hx : a.eval x = y) (m : List UInt8) (lo B : Nat) (hy : By w lo B y m) (hsz : l.length + m.length ≤ 70368744177664) (hb : base ≤ w.heap.size)
    (h : ∀ A c w', (l ++ m).length ≤ c → c ≤ 9223372036854775807 → Own8 w' base (.slice A (l ++ m).length c) (l ++ m) → Below base w w' → w.grownBy w' v.ownBlock → ((Value.slice A (l ++ m).length c).ownBlock = v.ownBlock ∨ (Value.slice A (l ++ m).length c).ownBlock = some w.heap.size) → wpList Try.prog ops Q rest (a.put o.dst (.slice A (l ++ m).length c)) w') : wpList Try.prog ops Q (o :: rest) a w :=
  wpList_plain hgd fun _ hK => by
    obtain ⟨v', w', hr, h2, h3, h4⟩ := run_app8 w base v l hown y m lo B hy hsz hb o.type
    unfold Oper.wp execOp
    simp only [ho, resolve, invoke, builtin, Sem.run_bind, Sem.run_pure, Result.andThen_ok, List.map_toArray, List.map_cons, List.map_nil, hs, hx, hr]
    obtain ⟨A, c, rfl, hc1, hc2⟩ := h2.form
    exact hK _ _ (h A c w' hc1 hc2 h2 (below_of_grown hown h3 hb) h3 h4)
/-- append(s, b): the byte first lies in a block of its own. -/
theorem app8_one (hgd : o.guard = none) (s x : Operand) (ho : o.op = .call { callee := .builtin .append, args := #[s, x], argTypes := #[22, 22] })
    (hs : a.eval s = v) (hown : Own8 w base v l) (c : Int) (b : UInt8) (hc : c = n8 b) (hx : a.eval x = .slice (some ⟨w.heap.size, 0, none⟩) 1 1) (hsz : l.length ≤ 35184372088832) (hb : base ≤ w.heap.size)
    (h : ∀ A c w', (l ++ [b]).length ≤ c → c ≤ 9223372036854775807 → Own8 w' base (.slice A (l ++ [b]).length c) (l ++ [b]) → Below base w w' → wpList Try.prog ops Q rest (a.put o.dst (.slice A (l ++ [b]).length c)) w') : wpList Try.prog ops Q (o :: rest) a (w.alloc (.cells #[.int .u8 c] 5)) := by
  have hy : By (w.alloc (.cells #[.int .u8 c] 5)) 0 (w.heap.size + 1) (.slice (some ⟨w.heap.size, 0, none⟩) 1 1) [b] := by
    refine By.mk_ (l := [b]) (by simp) (by simp [maxLen]) (.inr ⟨_, _, rfl, Nat.zero_le _, by omega, fun j u hj => ?_⟩)
    have hB := Bk.new w 5 [Value.int .u8 c]
    match j, hj with
    | 0, hj => simp [v8, ← hc] at hj; subst hj; exact hB.at_ rfl
    | j + 1, hj => simp at hj
  refine app8 _ base v l hgd s x ho hs (hown.alloc _) _ hx [b] 0 _ hy (by simp; omega) (by simp; omega) fun A c w' hc1 hc2 h1 h2 h3 h4 => h A c w' hc1 hc2 h1 ?_
  exact ((Below.refl _ _).alloc hb _).trans h2
/-- append(s, make([]byte, n)...) -/
theorem app8_zeros (hgd : o.guard = none) (s x : Operand) (ho : o.op = .call { callee := .builtin .append, args := #[s, x], argTypes := #[22, 3] })
    (hs : a.eval s = v) (hown : Own8 w base v l) (n : Nat) (k : IntKind) (hx : a.eval x = .int k (n : Int)) (hsz : l.length + n ≤ 70368744177664) (hb : base ≤ w.heap.size)
    (h : ∀ A c w', (l ++ List.replicate n 0).length ≤ c → c ≤ 9223372036854775807 → Own8 w' base (.slice A (l ++ List.replicate n 0).length c) (l ++ List.replicate n 0) → Below base w w' → wpList Try.prog ops Q rest (a.put o.dst (.slice A (l ++ List.replicate n 0).length c)) w') : wpList Try.prog ops Q (o :: rest) a w :=
  wpList_plain hgd fun _ hK => by
    obtain ⟨i0, hi0, hz0, hz1, hz2⟩ := info_parts info8
    obtain ⟨v', w', hr, h2, h3, h4⟩ := run_append_zeros (P := Try.prog) w base 22 3 o.type 5 i0 (.int .u8 0) 1 Try.underlying22 .i64 Try.underlying3 hi0 hz0 hz1 hz2 rfl rfl v l.length (l.map v8) hown k n
      (by simp only [maxLen]; omega) (by omega) hb
    unfold Oper.wp execOp
    simp only [ho, resolve, invoke, builtin, Sem.run_bind, Sem.run_pure, Result.andThen_ok, List.map_toArray, List.map_cons, List.map_nil, hs, hx, hr]
    have h5 : Own8 w' base v' (l ++ List.replicate n 0) := by
      unfold Own8
      rw [List.length_append, List.map_append, List.length_replicate, List.map_replicate]
      exact h2
    obtain ⟨A, c, rfl, hc1, hc2⟩ := h5.form
    exact hK _ _ (h A c w' hc1 hc2 h5 (below_of_grown hown h3 hb))
end
end Go.Proofs.Ytlegpkdighoflaa
namespace Go.Proofs.Ytlegpkdighoflaa
open Go Go.RowKit Sh
theorem wpList_build_eq {P : Program} {ops : Array Oper} {rest : List Oper} {o : Oper} {a : Act} {w : World} {Q : Exit → Act → World → Prop} (hg : o.guard = none) (t : TypeId) (parts : Array (Nat × Operand)) (ho : o.op = .build t parts)
    (cells : Array Value) (hf : P.built t (parts.map fun (i, x) => (i, a.eval x)).toList = some cells)
    (h : wpList P ops Q rest (a.put o.dst (.agg cells)) w) : wpList P ops Q (o :: rest) a w :=
  wpList_build hg t parts ho (by rw [hf]; rfl) (by rw [hf]; exact h)
theorem results_row {P : Program} {fn : Func} {p : Tmp} {ty : TypeId} (h : fn.results = #[.cell p ty]) (tmps : Array Value) (w : World) (g : Nat) (t : TypeId) (cs : List Value) (d : TypeDesc)
    (hp : tmps.getD p undef = .pointer (some ⟨g, 0, none⟩)) (hg : Bk w g t cs)
    (hu : P.underlying ty = some d) (hd : (match d with | .struct _ | .array _ _ => true | _ => false) = true) (hi : (P.info? ty).map (·.size) = some cs.length) :
    (results fn tmps).run P w = .ok (.agg cs.toArray) w := results_cell_row h tmps w g t cs.toArray (0, 0) d hp hg hu hd (by simpa using hi)
set_option maxRecDepth 100000 in
set_option maxHeartbeats 400000 in
theorem roots_any (w : World) :
    Calls Try.prog 53 #[] w fun e w' => e = .returned (A64 squares) ∧ Below w.heap.size w w' := by
  have hsq : squares.length = 8 := by decide +kernel
  go_enter Try.func53, Try.ntmps53
  go_wp2_with (refine wpList_build_eq rfl _ _ rfl (c64 squares).toArray (by kernel_rfl) ?_)
  exact bodyPost_ret (results_row rfl _ _ _ _ _ _ rfl ((Bk.new w _ _).puts (by simp [hsq])) Try.underlying112 rfl (by simp [info_d8, hsq])) rfl
    ⟨rfl, below_putAt ((Below.refl _ _).alloc (Nat.le_refl _) _) (Nat.le_refl _) _⟩
set_option maxRecDepth 100000 in
set_option maxHeartbeats 400000 in
theorem cubes_any (w : World) :
    Calls Try.prog 54 #[] w fun e w' => e = .returned (A64 cubes) ∧ Below w.heap.size w w' := by
  have hsq : cubes.length = 80 := by decide +kernel
  go_enter Try.func54, Try.ntmps54
  go_wp2_with (refine wpList_build_eq rfl _ _ rfl (c64 cubes).toArray (by kernel_rfl) ?_)
  exact bodyPost_ret (results_row rfl _ _ _ _ _ _ rfl ((Bk.new w _ _).puts (by simp [hsq])) Try.underlying114 rfl (by simp [info_d80, hsq])) rfl
    ⟨rfl, below_putAt ((Below.refl _ _).alloc (Nat.le_refl _) _) (Nat.le_refl _) _⟩
end Go.Proofs.Ytlegpkdighoflaa
namespace Go.Proofs.Ytlegpkdighoflaa
open Go Go.RowKit Sh
/-- A slice of byte slices reads as these lists. -/
def Parts (w : World) (B : Nat) (v : Value) (ls : List (List UInt8)) : Prop :=
  ∃ vs : List Value, Sl w 0 B v vs ∧ vs.length = ls.length ∧ ∀ (i : Nat) (x : Value) (l : List UInt8), vs[i]? = some x → ls[i]? = some l → By w 0 B x l
theorem Parts.below {w w' : World} {B : Nat} {v : Value} {ls : List (List UInt8)} (h : Parts w B v ls) (hb : Below B w w') : Parts w' B v ls :=
  let ⟨vs, h1, h2, h3⟩ := h; ⟨vs, h1.below hb, h2, fun i x l hx hl => (h3 i x l hx hl).below hb⟩
theorem Parts.more {w : World} {B B' : Nat} {v : Value} {ls : List (List UInt8)} (h : Parts w B v ls) (hB : B ≤ B') : Parts w B' v ls :=
  let ⟨vs, h1, h2, h3⟩ := h; ⟨vs, h1.more hB, h2, fun i x l hx hl => (h3 i x l hx hl).more hB⟩

set_option maxHeartbeats 1000000 in
theorem grow_nil (n : Nat) (hn : n ≤ 35184372088832) (w : World) :
    Calls Try.prog 58 #[.slice none 0 0, .int .i64 n] w fun e w' => ∃ v, e = .returned v ∧ Own8 w' w.heap.size v [] ∧ Below w.heap.size w w' := by
  by_cases h0 : n = 0
  · subst h0
    go_enter Try.func58, Try.ntmps58
    go_wp2
    go_ret
    exact ⟨_, rfl, Own8.nil _ _, Below.refl _ _⟩
  · have hp : (0 : Int) < (n : Int) := by omega
    go_enter Try.func58, Try.ntmps58
    go_wp2_with (at_builtin; refine app8_zeros _ w.heap.size (.slice none 0 0) [] rfl _ _ rfl rfl (Own8.nil _ _) n .i64 rfl (by simp; omega) (Nat.le_refl _) ?_; intro A c w1 hc1 hc2 ho1 hb1)
    go_ret
    exact ⟨_, rfl, by simpa using ho1.take (k := 0) (Nat.zero_le _), hb1⟩

/-- The k-th list; the first k of them joined. Names that no simp set opens. -/
def gl (ls : List (List UInt8)) (k : Nat) : List UInt8 := ls.getD k []
def cat (ls : List (List UInt8)) (k : Nat) : List UInt8 := (ls.take k).flatten
theorem Parts.at_ {w : World} {B : Nat} {vs : List Value} {ls : List (List UInt8)} {k : Nat} (h2 : vs.length = ls.length) (h3 : ∀ (i : Nat) (x : Value) (l : List UInt8), vs[i]? = some x → ls[i]? = some l → By w 0 B x l) (hk : k < ls.length) :
    ∃ A c, vs[k]? = some (.slice A (gl ls k).length c) ∧ (gl ls k).length ≤ c ∧ c ≤ 9223372036854775807 ∧ By w 0 B (.slice A (gl ls k).length c) (gl ls k) := by
  have hv : vs[k]? = some vs[k] := List.getElem?_eq_getElem (by omega)
  have hl : ls[k]? = some (gl ls k) := by unfold gl; rw [List.getElem?_eq_getElem hk]; simp [hk]
  have hb := h3 k _ _ hv hl
  obtain ⟨A, c, e, h4, h5, _⟩ := hb.open_
  exact ⟨A, c, by rw [hv, e], h4, h5, e ▸ hb⟩
theorem cat_step (ls : List (List UInt8)) (k : Nat) (hk : k < ls.length) : cat ls (k + 1) = cat ls k ++ gl ls k := by
  unfold cat gl
  rw [List.take_add_one, List.flatten_append]
  simp [hk]
theorem cat_le (ls : List (List UInt8)) (k : Nat) : (cat ls k).length ≤ ls.flatten.length := by
  have : ls.flatten = cat ls k ++ (ls.drop k).flatten := by unfold cat; rw [← List.flatten_append, List.take_append_drop]
  rw [this, List.length_append]
  omega
theorem cat_all (ls : List (List UInt8)) : cat ls ls.length = ls.flatten := by unfold cat; rw [List.take_length]

set_option maxHeartbeats 2000000 in
theorem concat_any (v : Value) (ls : List (List UInt8)) (w : World) (hp : Parts w w.heap.size v ls) (hsz : ls.flatten.length ≤ 17592186044416) :
    Calls Try.prog 57 #[v] w fun e w' => ∃ u, e = .returned u ∧ Own8 w' w.heap.size u ls.flatten ∧ Below w.heap.size w w' := by
  obtain ⟨vs, ⟨A, c, rfl, hc, hcm, hrd⟩, hvl, hel⟩ := hp
  have hvm : vs.length ≤ 9223372036854775807 := by unfold maxLen at hcm; omega
  rw [hvl] at hvm hc
  rw [hvl]
  go_enter Try.func57, Try.ntmps57
  go_wp2_with fail
  go_loop [3, 11] (fun s i => ∃ k : Nat, k ≤ ls.length ∧ i = .int .i64 k ∧ s = .int .i64 ((cat ls k).length)) (fun _ i => ls.length - (intOf i).toNat)
  case atStart => exact ⟨0, Nat.zero_le _, rfl, rfl⟩
  case round =>
    obtain ⟨k, hk, rfl, rfl⟩ := hrel
    by_cases hlt : k < ls.length
    · obtain ⟨g, o, rfl, _, hg, hcell⟩ := hrd.some (by omega)
      obtain ⟨Ak, ck, hx, _, _, _⟩ := Parts.at_ hvl hel hlt
      have hcx := hcell k _ hx
      have hfs := cat_step ls k hlt
      have hfl := cat_le ls (k + 1)
      rw [hfs, List.length_append] at hfl
      have HF := Lib.hid hfs
      clear hfs hx hcell hel hrd
      have hnn : (0 : Int) ≤ (((cat ls k).length : Nat) : Int) + ((gl ls k).length : Nat) := by omega
      go_wp2_with fail
      go_round
      case rel => exact ⟨k + 1, by omega, by go_num, by rw [HF.out, List.length_append]; go_num⟩
      case measure => simp [intOf]; omega
    · obtain rfl : k = ls.length := by omega
      have hfl := cat_le ls ls.length
      go_wp2_with fail
      refine (grow_nil (cat ls ls.length).length (by omega) _).mono ?_
      rintro e w1 ⟨u, rfl, ho, hb⟩
      go_wp2_with fail
      go_loopw [6, 27] (fun u i wr => ∃ k : Nat, k ≤ ls.length ∧ i = .int .i64 k ∧ Own8 wr w.heap.size u (cat ls k) ∧ Below w.heap.size w wr) (fun _ i _ => ls.length - (intOf i).toNat)
      case atStart => exact ⟨0, Nat.zero_le _, rfl, ho, hb⟩
      case round =>
        clear ho hb
        obtain ⟨k, hk, rfl, ho, hb⟩ := hrel
        by_cases hlt : k < ls.length
        · obtain ⟨g, o, rfl, _, hg, hcell⟩ := hrd.some (by omega)
          obtain ⟨Ak, ck, hx, hk1, hk2, hby⟩ := Parts.at_ hvl hel hlt
          have hcx : wr.cell? ⟨g, o + k, none⟩ = _ := (hb.cell (by exact hg)).trans (hcell k _ hx)
          have hfs := cat_step ls k hlt
          have hfl := cat_le ls (k + 1)
          rw [hfs, List.length_append] at hfl
          have HF := Lib.hid hfs
          have hby' := hby.below hb
          clear hfs hx hcell hel hrd hby
          go_wp2_with (at_builtin; refine app8 _ w.heap.size _ _ rfl _ _ rfl rfl ho _ rfl (gl ls k) 0 w.heap.size hby' (by omega) hb.size ?_; intro A2 c2 w2 hc1 hc2 ho2 hb2 hg2 hat2)
          go_roundw
          case rel => exact ⟨k + 1, by omega, by go_num, by rw [List.length_append] at ho2; rw [HF.out]; exact ho2, hb.trans hb2⟩
          case measure => simp [intOf]; omega
        · obtain rfl : k = ls.length := by omega
          have ca := Lib.hid (cat_all ls)
          go_wp2_with fail
          go_ret
          exact ⟨_, rfl, by rw [← ca.out]; exact ho, hb⟩

/-- The message with its one bit and so many noughts. -/
def pz (m : List UInt8) (j : Nat) : List UInt8 := m ++ [128] ++ List.replicate j 0
theorem length_pz (m : List UInt8) (j : Nat) : (pz m j).length = m.length + 1 + j := by simp [pz]; omega
theorem pz_zero (m : List UInt8) : pz m 0 = m ++ [128] := by simp [pz]
theorem pz_step (m : List UInt8) (j : Nat) : pz m (j + 1) = pz m j ++ [0] := by simp [pz, List.replicate_succ']
/-- .. and so many of the length's bytes. -/
def ps (P : List UInt8) (N : UInt64) (j : Nat) : List UInt8 := P ++ (be64 N).take j
theorem length_ps (P : List UInt8) (N : UInt64) (j : Nat) (hj : j ≤ 8) : (ps P N j).length = P.length + j := by
  have : (be64 N).length = 8 := rfl
  simp [ps, this]; omega
theorem ps_step (P : List UInt8) (N : UInt64) (j : Nat) (b : UInt8) (hb : (be64 N)[j]? = some b) : ps P N j ++ [b] = ps P N (j + 1) := by
  unfold ps
  rw [List.take_add_one, hb]
  simp
theorem ps_rel {w : World} {base : Nat} {A : Option Addr} {c j : Nat} {P : List UInt8} {N : UInt64} {b : UInt8} (hj : j < 8) (hb : (be64 N)[j]? = some b) (hd1 : (ps P N j ++ [b]).length ≤ c) (hd2 : c ≤ 9223372036854775807)
    (ho : Own8 w base (.slice A (ps P N j ++ [b]).length c) (ps P N j ++ [b])) :
    Value.slice A ((ps P N j).length + 1) c = .slice A (P.length + (j + 1)) c ∧ P.length + (j + 1) ≤ c ∧ c ≤ 9223372036854775807 ∧ Own8 w base (.slice A (P.length + (j + 1)) c) (ps P N (j + 1)) := by
  have h1 := length_ps P N j (by omega)
  have h2 := length_ps P N (j + 1) (by omega)
  rw [ps_step P N j b hb, h2] at hd1 ho
  exact ⟨by rw [h1, Nat.add_assoc], hd1, hd2, ho⟩
def lenV : Value → Nat | .slice _ n _ => n | _ => 0
set_option maxHeartbeats 8000000 in
theorem padded_64 (v : Value) (ls : List (List UInt8)) (w : World) (hp : Parts w w.heap.size v ls) (hsz : ls.flatten.length ≤ 1099511627776) :
    Calls Try.prog 55 #[v, .int .i64 64] w fun e w' => ∃ u, e = .returned u ∧ By w' w.heap.size w'.heap.size u (pad 64 ls.flatten) ∧ Below w.heap.size w w' := by
    go_enter Try.func55, Try.ntmps55
    go_wp2_with fail
    refine (concat_any v ls w hp (by omega)).mono ?_
    rintro e w1 ⟨u, rfl, ho, hb⟩
    have hn := hsz
    generalize hm : ls.flatten = m at *
    have Hm := Lib.hid hm
    clear hm hp hsz
    obtain ⟨A, c, rfl, hc, hcm⟩ := ho.form
    have hpad : pad 64 m = pz m (zeros 64 m.length) ++ List.replicate 0 0 ++ be64 (8 * UInt64.ofNat m.length) := rfl
    have Hpad := Lib.hid hpad
    clear hpad
    generalize hml : m.length = n at *
    have hw : IntKind.u64.wrap (n : Int) = n64 (UInt64.ofNat n) := by
      rw [wrapN64]; unfold n64; simp
    have Hml := Lib.hid hml
    clear hml
    go_wp2_with (at_builtin; refine app8_one _ w.heap.size _ m rfl _ _ rfl rfl ho 128 128 rfl rfl (by rw [Hml.out]; omega) hb.size ?_; intro A2 c2 w2 hc1 hc2 ho2 hb2)
    have hb2' := hb.trans hb2
    rw [← pz_zero] at ho2
    clear ho hb hb2 hc hcm
    generalize hz : zeros 64 n = z at *
    have hz1 : z = (64 - (n + 1 + 8) % 64) % 64 := by rw [← hz]; rfl
    have Hz1 := Lib.hid hz1
    have hzl : z < 64 := by omega
    clear hz hz1
    go_loopw [5] (fun b wr => ∃ (j : Nat) (A : Option Addr) (c : Nat), j ≤ z ∧ b = .slice A (n + 1 + j) c ∧ n + 1 + j ≤ c ∧ c ≤ 9223372036854775807 ∧ Own8 wr w.heap.size (.slice A (n + 1 + j) c) (pz m j) ∧ Below w.heap.size w wr) (fun b _ => n + 1 + z - lenV b)
    case atStart => exact ⟨0, A2, c2, Nat.zero_le _, by simp [Hml.out], by simpa [Hml.out] using hc1, hc2, by simpa [length_pz, Hml.out, pz] using ho2, hb2'⟩
    case round =>
      clear ho2 hb2' hc1 hc2
      obtain ⟨j, A, c, hj, rfl, hc1, hc2, ho, hb⟩ := hrel
      by_cases hlt : j < z
      · have hne : ((n : Int) + 1 + j + 8) % 64 ≠ 0 := by have := Hz1.out; omega
        go_wp2_with (at_builtin; refine app8_one _ w.heap.size _ (pz m j) rfl _ _ rfl rfl ho 0 0 rfl rfl (by rw [length_pz, Hml.out]; omega) hb.size ?_; intro A2 c2 w2 hd1 hd2 ho2 hb2)
        have he : (pz m j ++ [0]).length = n + 1 + (j + 1) := by rw [← pz_step, length_pz, Hml.out]
        rw [he] at hd1 ho2
        rw [← pz_step] at ho2
        go_roundw
        case rel => exact ⟨j + 1, A2, c2, by omega, by rw [show (pz m j).length + 1 = n + 1 + (j + 1) from by rw [length_pz, Hml.out]; omega], hd1, hd2, ho2, hb.trans hb2⟩
        case measure => simp [lenV, length_pz, Hml.out]; omega
      · obtain rfl : j = z := by omega
        have hne : ((n : Int) + 1 + j + 8) % 64 = 0 := by have := Hz1.out; omega
        go_wp2_with (at_builtin; refine app8_zeros _ w.heap.size _ (pz m j) rfl _ _ rfl rfl ho 0 .i64 rfl (by rw [length_pz, Hml.out]; omega) hb.size ?_; intro A2 c2 w2 hd1 hd2 ho2 hb2)
        have hb3 := hb.trans hb2
        generalize hP : pz m j ++ List.replicate 0 0 = P at *
        have hPl : P.length = n + 1 + j + 0 := by rw [← hP]; simp [length_pz, Hml.out]
        have HP := Lib.hid hP
        have HPl := Lib.hid hPl
        clear hP hPl ho hb hb2 hne hlt hc1 hc2
        go_wp2_with fail
        go_loopw [5, 7] (fun b i wr => ∃ (j : Nat) (A : Option Addr) (c : Nat), j ≤ 8 ∧ i = .int .i64 (56 - 8 * (j : Int)) ∧ (b = .slice A (P.length + j) c ∧ P.length + j ≤ c ∧ c ≤ 9223372036854775807 ∧ Own8 wr w.heap.size (.slice A (P.length + j) c) (ps P (8 * UInt64.ofNat n) j)) ∧ Below w.heap.size w wr) (fun b i _ => (intOf i + 8).toNat)
        case atStart => exact ⟨0, A2, c2, by omega, rfl, ⟨by simp [HPl.out, length_pz, Hml.out], by simpa [HPl.out] using hd1, hd2, by simpa [HPl.out, ps] using ho2⟩, hb3⟩
        case round =>
          clear ho2 hb3 hd1 hd2
          obtain ⟨j, A, c, hj, rfl, ⟨rfl, hc1, hc2, ho⟩, hb⟩ := hrel
          have hPn := HPl.out
          have hql : P.length + j ≤ 35184372088832 := by omega
          have hP1 : P.length ≤ 1099511627976 := by omega
          have HPn := Lib.hid hPn
          clear hPn
          by_cases hlt : j < 8
          · have hj8 : j = 0 ∨ j = 1 ∨ j = 2 ∨ j = 3 ∨ j = 4 ∨ j = 5 ∨ j = 6 ∨ j = 7 := by omega
            have hl := length_ps P (8 * UInt64.ofNat n) j hj
            have hqq : (ps P (8 * UInt64.ofNat n) j).length ≤ 35184372088832 := by omega
            clear hl hql
            rcases hj8 with rfl | rfl | rfl | rfl | rfl | rfl | rfl | rfl
            all_goals
              go_wp2_with (at_builtin; refine app8_one _ w.heap.size _ (ps P (8 * UInt64.ofNat n) _) rfl _ _ rfl rfl ho _ _ rfl rfl hqq hb.size ?_; intro A2 c2 w2 hd1 hd2 ho2 hb2)
              have R := ps_rel (by omega) (by simp [be64]) hd1 hd2 ho2
              go_roundw
              case rel => exact ⟨_, A2, c2, by omega, by go_num, R, hb.trans hb2⟩
              case measure => simp [intOf]
          · obtain rfl : j = 8 := by omega
            have e : pad 64 m = ps P (8 * UInt64.ofNat n) 8 := by rw [Hpad.out]; rfl
            have he := Lib.hid e
            clear e
            go_wp2_with fail
            go_ret
            exact ⟨_, rfl, by rw [Hm.out, Hid.out he]; exact Own8.by_ ho, hb⟩
set_option maxHeartbeats 8000000 in
theorem padded_128 (v : Value) (ls : List (List UInt8)) (w : World) (hp : Parts w w.heap.size v ls) (hsz : ls.flatten.length ≤ 1099511627776) :
    Calls Try.prog 55 #[v, .int .i64 128] w fun e w' => ∃ u, e = .returned u ∧ By w' w.heap.size w'.heap.size u (pad 128 ls.flatten) ∧ Below w.heap.size w w' := by
    go_enter Try.func55, Try.ntmps55
    go_wp2_with fail
    refine (concat_any v ls w hp (by omega)).mono ?_
    rintro e w1 ⟨u, rfl, ho, hb⟩
    have hn := hsz
    generalize hm : ls.flatten = m at *
    have Hm := Lib.hid hm
    clear hm hp hsz
    obtain ⟨A, c, rfl, hc, hcm⟩ := ho.form
    have hpad : pad 128 m = pz m (zeros 128 m.length) ++ List.replicate 8 0 ++ be64 (8 * UInt64.ofNat m.length) := rfl
    have Hpad := Lib.hid hpad
    clear hpad
    generalize hml : m.length = n at *
    have hw : IntKind.u64.wrap (n : Int) = n64 (UInt64.ofNat n) := by
      rw [wrapN64]; unfold n64; simp
    have Hml := Lib.hid hml
    clear hml
    go_wp2_with (at_builtin; refine app8_one _ w.heap.size _ m rfl _ _ rfl rfl ho 128 128 rfl rfl (by rw [Hml.out]; omega) hb.size ?_; intro A2 c2 w2 hc1 hc2 ho2 hb2)
    have hb2' := hb.trans hb2
    rw [← pz_zero] at ho2
    clear ho hb hb2 hc hcm
    generalize hz : zeros 128 n = z at *
    have hz1 : z = (128 - (n + 1 + 16) % 128) % 128 := by rw [← hz]; rfl
    have Hz1 := Lib.hid hz1
    have hzl : z < 128 := by omega
    clear hz hz1
    go_loopw [5] (fun b wr => ∃ (j : Nat) (A : Option Addr) (c : Nat), j ≤ z ∧ b = .slice A (n + 1 + j) c ∧ n + 1 + j ≤ c ∧ c ≤ 9223372036854775807 ∧ Own8 wr w.heap.size (.slice A (n + 1 + j) c) (pz m j) ∧ Below w.heap.size w wr) (fun b _ => n + 1 + z - lenV b)
    case atStart => exact ⟨0, A2, c2, Nat.zero_le _, by simp [Hml.out], by simpa [Hml.out] using hc1, hc2, by simpa [length_pz, Hml.out, pz] using ho2, hb2'⟩
    case round =>
      clear ho2 hb2' hc1 hc2
      obtain ⟨j, A, c, hj, rfl, hc1, hc2, ho, hb⟩ := hrel
      by_cases hlt : j < z
      · have hne : ((n : Int) + 1 + j + 16) % 128 ≠ 0 := by have := Hz1.out; omega
        go_wp2_with (at_builtin; refine app8_one _ w.heap.size _ (pz m j) rfl _ _ rfl rfl ho 0 0 rfl rfl (by rw [length_pz, Hml.out]; omega) hb.size ?_; intro A2 c2 w2 hd1 hd2 ho2 hb2)
        have he : (pz m j ++ [0]).length = n + 1 + (j + 1) := by rw [← pz_step, length_pz, Hml.out]
        rw [he] at hd1 ho2
        rw [← pz_step] at ho2
        go_roundw
        case rel => exact ⟨j + 1, A2, c2, by omega, by rw [show (pz m j).length + 1 = n + 1 + (j + 1) from by rw [length_pz, Hml.out]; omega], hd1, hd2, ho2, hb.trans hb2⟩
        case measure => simp [lenV, length_pz, Hml.out]; omega
      · obtain rfl : j = z := by omega
        have hne : ((n : Int) + 1 + j + 16) % 128 = 0 := by have := Hz1.out; omega
        go_wp2_with (at_builtin; refine app8_zeros _ w.heap.size _ (pz m j) rfl _ _ rfl rfl ho 8 .i64 rfl (by rw [length_pz, Hml.out]; omega) hb.size ?_; intro A2 c2 w2 hd1 hd2 ho2 hb2)
        have hb3 := hb.trans hb2
        generalize hP : pz m j ++ List.replicate 8 0 = P at *
        have hPl : P.length = n + 1 + j + 8 := by rw [← hP]; simp [length_pz, Hml.out]
        have HP := Lib.hid hP
        have HPl := Lib.hid hPl
        clear hP hPl ho hb hb2 hne hlt hc1 hc2
        go_wp2_with fail
        go_loopw [5, 7] (fun b i wr => ∃ (j : Nat) (A : Option Addr) (c : Nat), j ≤ 8 ∧ i = .int .i64 (56 - 8 * (j : Int)) ∧ (b = .slice A (P.length + j) c ∧ P.length + j ≤ c ∧ c ≤ 9223372036854775807 ∧ Own8 wr w.heap.size (.slice A (P.length + j) c) (ps P (8 * UInt64.ofNat n) j)) ∧ Below w.heap.size w wr) (fun b i _ => (intOf i + 8).toNat)
        case atStart => exact ⟨0, A2, c2, by omega, rfl, ⟨by simp [HPl.out, length_pz, Hml.out], by simpa [HPl.out] using hd1, hd2, by simpa [HPl.out, ps] using ho2⟩, hb3⟩
        case round =>
          clear ho2 hb3 hd1 hd2
          obtain ⟨j, A, c, hj, rfl, ⟨rfl, hc1, hc2, ho⟩, hb⟩ := hrel
          have hPn := HPl.out
          have hql : P.length + j ≤ 35184372088832 := by omega
          have hP1 : P.length ≤ 1099511627976 := by omega
          have HPn := Lib.hid hPn
          clear hPn
          by_cases hlt : j < 8
          · have hj8 : j = 0 ∨ j = 1 ∨ j = 2 ∨ j = 3 ∨ j = 4 ∨ j = 5 ∨ j = 6 ∨ j = 7 := by omega
            have hl := length_ps P (8 * UInt64.ofNat n) j hj
            have hqq : (ps P (8 * UInt64.ofNat n) j).length ≤ 35184372088832 := by omega
            clear hl hql
            rcases hj8 with rfl | rfl | rfl | rfl | rfl | rfl | rfl | rfl
            all_goals
              go_wp2_with (at_builtin; refine app8_one _ w.heap.size _ (ps P (8 * UInt64.ofNat n) _) rfl _ _ rfl rfl ho _ _ rfl rfl hqq hb.size ?_; intro A2 c2 w2 hd1 hd2 ho2 hb2)
              have R := ps_rel (by omega) (by simp [be64]) hd1 hd2 ho2
              go_roundw
              case rel => exact ⟨_, A2, c2, by omega, by go_num, R, hb.trans hb2⟩
              case measure => simp [intOf]
          · obtain rfl : j = 8 := by omega
            have e : pad 128 m = ps P (8 * UInt64.ofNat n) 8 := by rw [Hpad.out]; rfl
            have he := Lib.hid e
            clear e
            go_wp2_with fail
            go_ret
            exact ⟨_, rfl, by rw [Hm.out, Hid.out he]; exact Own8.by_ ho, hb⟩
theorem padded_any (block : Nat) (hbl : block = 64 ∨ block = 128) (v : Value) (ls : List (List UInt8)) (w : World) (hp : Parts w w.heap.size v ls) (hsz : ls.flatten.length ≤ 1099511627776) :
    Calls Try.prog 55 #[v, .int .i64 block] w fun e w' => ∃ u, e = .returned u ∧ By w' w.heap.size w'.heap.size u (pad block ls.flatten) ∧ Below w.heap.size w w' := by
  rcases hbl with rfl | rfl
  · exact padded_64 v ls w hp hsz
  · exact padded_128 v ls w hp hsz
end Go.Proofs.Ytlegpkdighoflaa
