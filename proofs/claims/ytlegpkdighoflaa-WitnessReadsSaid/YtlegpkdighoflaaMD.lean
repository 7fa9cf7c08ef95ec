/- Plain: a word of 32 bits kept in 64, as the reference keeps it. · The reference's turn, three, cut, square and cube. · The reference's constants: square and cube answer the place of the list. · Plain lemmas for the reference's Digest. · Slices made by Digest: an empty one, noughts, an append of words; values of a round kept in 64 bits. · Digest's words: what a round makes of them, as plain equations. · A slice of eight words that is only read; the output's bytes from the left. · The loops of witanref02.Digest, taken out of its body; its numbers. -/
import Derived.Test.YtlegpkdighoflaaMB
import Derived.Test.YtlegpkdighoflaaProg
import Derived.Test.YtlegpkdighoflaaMA
import Derived.WalkKit
import Derived.WalkLawsBesides
import Derived.Lib.Hide
import Derived.Test.YtlegpkdighoflaaMC
import Derived.Deep.OwnRows
set_option linter.unusedVariables false
set_option linter.unusedSimpArgs false
namespace Go.Proofs.Ytlegpkdighoflaa
namespace Sh
theorem toNat_rotl32 (x : UInt32) (s : Nat) (h0 : 0 < s) (h : s < 32) : (rotl32 x (-(s : Int))).toNat = (x.toNat <<< (32 - s)) % 2 ^ 32 ||| x.toNat >>> s := by
  unfold rotl32
  have e1 : (32 + -(s : Int)).toNat = 32 - s := by omega
  have e2 : (- -(s : Int)).toNat = s := by omega
  rw [e1, e2, UInt32.toNat_or, UInt32.toNat_shiftLeft, UInt32.toNat_shiftRight, UInt32.toNat_ofNat', UInt32.toNat_ofNat']
  have e3 : (32 - s) % 2 ^ 32 % 32 = 32 - s := by omega
  have e4 : s % 2 ^ 32 % 32 = s := by omega
  rw [e3, e4]
theorem turn32_eq (x : UInt32) (s : Nat) (h0 : 0 < s) (h : s < 32) :
    (x.toUInt64 >>> UInt64.ofNat s ||| x.toUInt64 <<< UInt64.ofNat (32 - s)) % 4294967296 = (rotl32 x (-(s : Int))).toUInt64 := by
  apply UInt64.toNat_inj.1
  have hx : x.toNat < 2 ^ 32 := UInt32.toNat_lt x
  rw [UInt32.toNat_toUInt64, toNat_rotl32 x s h0 h, UInt64.toNat_mod, UInt64.toNat_or, UInt64.toNat_shiftLeft, UInt64.toNat_shiftRight, UInt32.toNat_toUInt64, UInt64.toNat_ofNat', UInt64.toNat_ofNat']
  have e3 : (32 - s) % 2 ^ 64 % 64 = 32 - s := by omega
  have e4 : s % 2 ^ 64 % 64 = s := by omega
  rw [e3, e4]
  show (_ ||| _) % 2 ^ 32 = _
  rw [Nat.or_mod_two_pow, Nat.mod_mod_of_dvd _ (Nat.pow_dvd_pow 2 (by decide)), Nat.or_comm]
  congr 1
  exact Nat.mod_eq_of_lt (Nat.lt_of_le_of_lt (Nat.shiftRight_le _ _) hx)
theorem toNat_rotl64 (x : UInt64) (s : Nat) (h0 : 0 < s) (h : s < 64) : x >>> UInt64.ofNat s ||| x <<< UInt64.ofNat (64 - s) = rotl64 x (-(s : Int)) := by
  unfold rotl64
  have e1 : (64 + -(s : Int)).toNat = 64 - s := by omega
  have e2 : (- -(s : Int)).toNat = s := by omega
  rw [e1, e2]
  apply UInt64.toNat_inj.1
  rw [UInt64.toNat_or, UInt64.toNat_or, Nat.or_comm]
theorem cut32_eq (x : UInt64) : x % 4294967296 = x.toUInt32.toUInt64 := by
  apply UInt64.toNat_inj.1
  rw [UInt64.toNat_mod, UInt32.toNat_toUInt64, UInt64.toNat_toUInt32]
  rfl
theorem low_add (a b : UInt64) : (a + b).toUInt32 = a.toUInt32 + b.toUInt32 := by simp
theorem low_up (x : UInt32) : x.toUInt64.toUInt32 = x := by simp
theorem up_xor (a b : UInt32) : a.toUInt64 ^^^ b.toUInt64 = (a ^^^ b).toUInt64 := by simp
theorem up_and (a b : UInt32) : a.toUInt64 &&& b.toUInt64 = (a &&& b).toUInt64 := by simp
theorem up_or (a b : UInt32) : a.toUInt64 ||| b.toUInt64 = (a ||| b).toUInt64 := by simp
theorem up_not (a : UInt32) : (~~~a.toUInt64) % 4294967296 = (~~~a).toUInt64 := by
  rw [cut32_eq]
  congr 1
  simp
theorem up_shr (a : UInt32) (s : Nat) (h : s < 32) : a.toUInt64 >>> UInt64.ofNat s = (a >>> UInt32.ofNat s).toUInt64 := by
  apply UInt64.toNat_inj.1
  rw [UInt64.toNat_shiftRight, UInt32.toNat_toUInt64, UInt32.toNat_toUInt64, UInt32.toNat_shiftRight, UInt64.toNat_ofNat', UInt32.toNat_ofNat']
  congr 1
  omega

theorem ch32 (e f g : UInt32) : e &&& f ||| ~~~e &&& g = e &&& f ^^^ ~~~e &&& g := by
  apply UInt32.toBitVec_inj.1
  simp only [UInt32.toBitVec_or, UInt32.toBitVec_and, UInt32.toBitVec_xor, UInt32.toBitVec_not]
  ext i hi
  simp only [BitVec.getElem_or, BitVec.getElem_and, BitVec.getElem_xor, BitVec.getElem_not]
  cases e.toBitVec[i] <;> simp
theorem maj32 (a b c : UInt32) : a &&& b ||| a &&& c ||| b &&& c = a &&& b ^^^ a &&& c ^^^ b &&& c := by
  apply UInt32.toBitVec_inj.1
  simp only [UInt32.toBitVec_or, UInt32.toBitVec_and, UInt32.toBitVec_xor]
  ext i hi
  simp only [BitVec.getElem_or, BitVec.getElem_and, BitVec.getElem_xor]
  cases a.toBitVec[i] <;> cases b.toBitVec[i] <;> cases c.toBitVec[i] <;> rfl
theorem ch64 (e f g : UInt64) : e &&& f ||| ~~~e &&& g = e &&& f ^^^ ~~~e &&& g := by
  apply UInt64.toBitVec_inj.1
  simp only [UInt64.toBitVec_or, UInt64.toBitVec_and, UInt64.toBitVec_xor, UInt64.toBitVec_not]
  ext i hi
  simp only [BitVec.getElem_or, BitVec.getElem_and, BitVec.getElem_xor, BitVec.getElem_not]
  cases e.toBitVec[i] <;> simp
theorem maj64 (a b c : UInt64) : a &&& b ||| a &&& c ||| b &&& c = a &&& b ^^^ a &&& c ^^^ b &&& c := by
  apply UInt64.toBitVec_inj.1
  simp only [UInt64.toBitVec_or, UInt64.toBitVec_and, UInt64.toBitVec_xor]
  ext i hi
  simp only [BitVec.getElem_or, BitVec.getElem_and, BitVec.getElem_xor]
  cases a.toBitVec[i] <;> cases b.toBitVec[i] <;> cases c.toBitVec[i] <;> rfl
theorem word64_step (m : UInt64) (x : UInt8) : m * (256 : UInt64) + x.toUInt64 = m <<< (8 : UInt64) ||| x.toUInt64 := by
  apply UInt64.toNat_inj.1
  have hx : x.toNat < 2 ^ 8 := UInt8.toNat_lt x
  rw [UInt64.toNat_add, UInt64.toNat_mul, UInt64.toNat_or, UInt64.toNat_shiftLeft, UInt8.toNat_toUInt64]
  show (m.toNat * 256 % 2 ^ 64 + x.toNat) % 2 ^ 64 = m.toNat <<< 8 % 2 ^ 64 ||| x.toNat
  rw [Nat.shiftLeft_eq]
  have h2 : m.toNat * 2 ^ 8 % 2 ^ 64 = (m.toNat % 2 ^ 56) * 2 ^ 8 := by omega
  rw [h2, Nat.mul_comm (m.toNat % 2 ^ 56), ← Nat.two_pow_add_eq_or_of_lt hx]
  omega
end Sh
end Go.Proofs.Ytlegpkdighoflaa
namespace Go.Proofs.Ytlegpkdighoflaa
open Go Go.RowKit Sh
theorem n64_nonneg (x : UInt64) : 0 ≤ n64 x := (n64_bd x).1
@[go_sem ↓ high] theorem rem64_32 (x : UInt64) : Op.intDiv .rem .u64 (n64 x) 4294967296 = pure (.int .u64 (n64 (x % 4294967296))) := by
  unfold Op.intDiv n64
  rw [if_neg (by decide), UInt64.toNat_mod]
  congr 2
@[go_sem ↓ high] theorem rem64_256 (x : UInt64) : Op.intDiv .rem .u64 (n64 x) 256 = pure (.int .u64 (n64 (x % 256))) := by
  unfold Op.intDiv n64
  rw [if_neg (by decide), UInt64.toNat_mod]
  congr 2
@[go_sem ↓ high] theorem mul64_256 (x : UInt64) : Op.intArith .mul .u64 (n64 x) 256 = pure (.int .u64 (n64 (x * 256))) := mul64 x 256
@[go_sem ↓ high] theorem mul64_8r (x : UInt64) : Op.intArith .mul .u64 (n64 x) 8 = pure (.int .u64 (n64 (x * 8))) := mul64 x 8
@[go_sem ↓ high] theorem quo64_256 (x : UInt64) : Op.intDiv .quo .u64 (n64 x) 256 = pure (.int .u64 (n64 (x / 256))) := by
  have h := wrapN64 (x.toNat / 256)
  have hx := lt64 x
  have e : Op.intDiv .quo .u64 (n64 x) 256 = pure (.int .u64 (IntKind.u64.wrap ((x.toNat / 256 : Nat) : Int))) := rfl
  rw [e, h, Nat.mod_eq_of_lt (by omega)]
  unfold n64
  rw [UInt64.toNat_div]
  rfl

set_option maxHeartbeats 400000 in
theorem turn32_s (x : UInt32) (s : Nat) (h0 : 0 < s) (h : s < 32) (w : World) :
    Calls Try.prog 52 #[.int .u64 (n64 x.toUInt64), .int .u64 (s : Int), .int .u64 32] w fun e w' => e = .returned (.int .u64 (n64 (rotl32 x (-(s : Int))).toUInt64)) ∧ w' = w := by
  have hs : IntKind.u64.wrap (32 - (s : Int)) = ((32 - s : Nat) : Int) := (IntWalk.u64_in _ (by omega)).trans (by omega)
  have h1 : s < 64 := by omega
  have h2 : 32 - s < 64 := by omega
  have ht := Lib.hid (turn32_eq x s h0 h)
  generalize x.toUInt64 = X at *
  go_enter Try.func52, Try.ntmps52
  go_wp2
  go_ret
  exact ⟨by rw [← ht.out]; rfl, rfl⟩
set_option maxHeartbeats 400000 in
theorem turn64_s (x : UInt64) (s : Nat) (h0 : 0 < s) (h : s < 64) (w : World) :
    Calls Try.prog 52 #[.int .u64 (n64 x), .int .u64 (s : Int), .int .u64 64] w fun e w' => e = .returned (.int .u64 (n64 (rotl64 x (-(s : Int))))) ∧ w' = w := by
  have hs : IntKind.u64.wrap (64 - (s : Int)) = ((64 - s : Nat) : Int) := (IntWalk.u64_in _ (by omega)).trans (by omega)
  have h2 : 64 - s < 64 := by omega
  have ht := Lib.hid (toNat_rotl64 x s h0 h)
  go_enter Try.func52, Try.ntmps52
  go_wp2
  go_ret
  exact ⟨by rw [← ht.out]; rfl, rfl⟩
theorem turn32 (x : UInt32) (n : Int) (h : 0 < n ∧ n < 32) (w : World) :
    Calls Try.prog 52 #[.int .u64 (n64 x.toUInt64), .int .u64 n, .int .u64 32] w fun e w' => e = .returned (.int .u64 (n64 (rotl32 x (-n)).toUInt64)) ∧ w' = w := by
  obtain ⟨s, rfl⟩ := Int.eq_ofNat_of_zero_le (show 0 ≤ n by omega)
  exact turn32_s x s (by omega) (by omega) w
theorem turn64 (x : UInt64) (n : Int) (h : 0 < n ∧ n < 64) (w : World) :
    Calls Try.prog 52 #[.int .u64 (n64 x), .int .u64 n, .int .u64 64] w fun e w' => e = .returned (.int .u64 (n64 (rotl64 x (-n)))) ∧ w' = w := by
  obtain ⟨s, rfl⟩ := Int.eq_ofNat_of_zero_le (show 0 ≤ n by omega)
  exact turn64_s x s (by omega) (by omega) w
theorem cut32 (x : UInt64) (w : World) :
    Calls Try.prog 46 #[.int .u64 (n64 x), .int .u64 32] w fun e w' => e = .returned (.int .u64 (n64 x.toUInt32.toUInt64)) ∧ w' = w := by
  have ht := Lib.hid (cut32_eq x)
  go_enter Try.func46, Try.ntmps46
  go_wp2
  go_ret
  exact ⟨by rw [← ht.out]; rfl, rfl⟩
theorem cut64 (x : UInt64) (w : World) :
    Calls Try.prog 46 #[.int .u64 (n64 x), .int .u64 64] w fun e w' => e = .returned (.int .u64 (n64 x)) ∧ w' = w := by
  go_enter Try.func46, Try.ntmps46
  go_wp2
  go_ret
  exact ⟨rfl, rfl⟩
def th32 (x : UInt32) (a b c : Int) (sh : Bool) : UInt32 := rotl32 x (-a) ^^^ rotl32 x (-b) ^^^ (if sh then x >>> UInt32.ofNat c.toNat else rotl32 x (-c))
def th64 (x : UInt64) (a b c : Int) (sh : Bool) : UInt64 := rotl64 x (-a) ^^^ rotl64 x (-b) ^^^ (if sh then x >>> UInt64.ofNat c.toNat else rotl64 x (-c))
set_option maxHeartbeats 400000 in
theorem three32_s (x : UInt32) (a b c : Int) (ha : 0 < a ∧ a < 32) (hb : 0 < b ∧ b < 32) (hc : 0 < c ∧ c < 32) (w : World) :
    Calls Try.prog 47 #[.int .u64 (n64 x.toUInt64), .int .u64 32, .int .u64 a, .int .u64 b, .int .u64 c, .bool true] w fun e w' => e = .returned (.int .u64 (n64 (th32 x a b c true).toUInt64)) ∧ w' = w := by
  obtain ⟨s, rfl⟩ := Int.eq_ofNat_of_zero_le (show 0 ≤ c by omega)
  have hs : s < 64 := by omega
  go_enter Try.func47, Try.ntmps47
  go_wp2_with fail
  refine (turn32 x a ha _).mono ?_; rintro e w' ⟨rfl, rfl⟩
  go_wp2_with fail
  refine (turn32 x b hb _).mono ?_; rintro e w' ⟨rfl, rfl⟩
  go_wp2_with fail
  go_ret
  refine ⟨?_, rfl⟩
  show Ending.returned (Value.int _ _) = _
  rw [up_shr x s (by omega), up_xor, up_xor]
  rfl
set_option maxHeartbeats 400000 in
theorem three32_t (x : UInt32) (a b c : Int) (ha : 0 < a ∧ a < 32) (hb : 0 < b ∧ b < 32) (hc : 0 < c ∧ c < 32) (w : World) :
    Calls Try.prog 47 #[.int .u64 (n64 x.toUInt64), .int .u64 32, .int .u64 a, .int .u64 b, .int .u64 c, .bool false] w fun e w' => e = .returned (.int .u64 (n64 (th32 x a b c false).toUInt64)) ∧ w' = w := by
  go_enter Try.func47, Try.ntmps47
  go_wp2_with fail
  refine (turn32 x a ha _).mono ?_; rintro e w' ⟨rfl, rfl⟩
  go_wp2_with fail
  refine (turn32 x b hb _).mono ?_; rintro e w' ⟨rfl, rfl⟩
  go_wp2_with fail
  refine (turn32 x c hc _).mono ?_; rintro e w' ⟨rfl, rfl⟩
  go_wp2_with fail
  go_ret
  refine ⟨?_, rfl⟩
  show Ending.returned (Value.int _ _) = _
  rw [up_xor, up_xor]
  rfl
theorem three32 (x : UInt32) (a b c : Int) (sh : Bool) (h : (0 < a ∧ a < 32) ∧ (0 < b ∧ b < 32) ∧ (0 < c ∧ c < 32)) (w : World) :
    Calls Try.prog 47 #[.int .u64 (n64 x.toUInt64), .int .u64 32, .int .u64 a, .int .u64 b, .int .u64 c, .bool sh] w fun e w' => e = .returned (.int .u64 (n64 (th32 x a b c sh).toUInt64)) ∧ w' = w := by
  cases sh
  · exact three32_t x a b c h.1 h.2.1 h.2.2 w
  · exact three32_s x a b c h.1 h.2.1 h.2.2 w
set_option maxHeartbeats 400000 in
theorem three64_s (x : UInt64) (a b c : Int) (ha : 0 < a ∧ a < 64) (hb : 0 < b ∧ b < 64) (hc : 0 < c ∧ c < 64) (w : World) :
    Calls Try.prog 47 #[.int .u64 (n64 x), .int .u64 64, .int .u64 a, .int .u64 b, .int .u64 c, .bool true] w fun e w' => e = .returned (.int .u64 (n64 (th64 x a b c true))) ∧ w' = w := by
  obtain ⟨s, rfl⟩ := Int.eq_ofNat_of_zero_le (show 0 ≤ c by omega)
  have hs : s < 64 := by omega
  go_enter Try.func47, Try.ntmps47
  go_wp2_with fail
  refine (turn64 x a ha _).mono ?_; rintro e w' ⟨rfl, rfl⟩
  go_wp2_with fail
  refine (turn64 x b hb _).mono ?_; rintro e w' ⟨rfl, rfl⟩
  go_wp2_with fail
  go_ret
  exact ⟨rfl, rfl⟩
set_option maxHeartbeats 400000 in
theorem three64_t (x : UInt64) (a b c : Int) (ha : 0 < a ∧ a < 64) (hb : 0 < b ∧ b < 64) (hc : 0 < c ∧ c < 64) (w : World) :
    Calls Try.prog 47 #[.int .u64 (n64 x), .int .u64 64, .int .u64 a, .int .u64 b, .int .u64 c, .bool false] w fun e w' => e = .returned (.int .u64 (n64 (th64 x a b c false))) ∧ w' = w := by
  go_enter Try.func47, Try.ntmps47
  go_wp2_with fail
  refine (turn64 x a ha _).mono ?_; rintro e w' ⟨rfl, rfl⟩
  go_wp2_with fail
  refine (turn64 x b hb _).mono ?_; rintro e w' ⟨rfl, rfl⟩
  go_wp2_with fail
  refine (turn64 x c hc _).mono ?_; rintro e w' ⟨rfl, rfl⟩
  go_wp2_with fail
  go_ret
  exact ⟨rfl, rfl⟩
theorem three64 (x : UInt64) (a b c : Int) (sh : Bool) (h : (0 < a ∧ a < 64) ∧ (0 < b ∧ b < 64) ∧ (0 < c ∧ c < 64)) (w : World) :
    Calls Try.prog 47 #[.int .u64 (n64 x), .int .u64 64, .int .u64 a, .int .u64 b, .int .u64 c, .bool sh] w fun e w' => e = .returned (.int .u64 (n64 (th64 x a b c sh))) ∧ w' = w := by
  cases sh
  · exact three64_t x a b c h.1 h.2.1 h.2.2 w
  · exact three64_s x a b c h.1 h.2.1 h.2.2 w
end Go.Proofs.Ytlegpkdighoflaa
namespace Go.Proofs.Ytlegpkdighoflaa
open Go Go.RowKit Sh
theorem wpList_buildSlice {P : Program} {ops : Array Oper} {rest : List Oper} {o : Oper} {a : Act} {w : World} {Q : Exit → Act → World → Prop} (hg : o.guard = none) (t e len : Nat) (parts : Array (Nat × Operand)) (ho : o.op = .buildSlice t len parts)
    (ht : P.underlying t = some (.slice e)) (size : Nat) (z : Value) (hi : (P.info? e).map (fun i => (i.size, i.zero)) = some (size, some z)) (hl : len * size ≤ 16777216) (hp : len * size ≠ 0) (cells : Array Value)
    (hf : Instr.fill (fun i => some (i * size, size)) ((Array.range (len * size)).map (fun j => z.cells[j % z.cells.size]!)) (parts.map fun (i, x) => (i, a.eval x)).toList = some cells)
    (h : wpList P ops Q rest (a.put o.dst (.slice (some ⟨w.heap.size, 0, none⟩) len len)) (w.alloc (.cells cells e))) : wpList P ops Q (o :: rest) a w :=
  wpList_plain hg fun _ hK => by
    cases hq : P.info? e with
    | none => simp [hq] at hi
    | some i =>
      simp only [hq, Option.map_some, Option.some.injEq, Prod.mk.injEq] at hi
      obtain ⟨h1, h2⟩ := hi
      have hl' : ¬ (16777216 < len * size) := by omega
      have hr : (Instr.buildSlice t len (parts.map fun (i, x) => (i, a.eval x))).run P w = .ok (.slice (some ⟨w.heap.size, 0, none⟩) len len) (w.alloc (.cells cells e)) := by
        unfold Instr.buildSlice
        simp only [Sem.run_bind, run_underlying ht, Result.andThen_ok, sizeOf, typeInfo, Sem.run_pure]
        simp [hq, h1, hl', hp, zeroValue, typeInfo, h2, newRow]
        have hf2 : Instr.fill (fun i => some (i * size, size)) (Array.map (fun x => z.cells[x % z.cells.size]!) (Array.range (len * size))) (List.map (fun x => (x.fst, a.eval x.snd)) parts.toList) = some cells := by simpa using hf
        rw [hf2]
        rfl
      unfold Oper.wp execOp
      simp only [ho, Sem.run_bind, hr, Result.andThen_ok, Sem.run_pure]
      exact hK _ _ h
theorem infoU64 : (Try.prog.info? 103).map (fun i => (i.size, i.zero)) = some (1, some (.int .u64 0)) := by kernel_rfl
set_option maxRecDepth 100000 in
set_option maxHeartbeats 1000000 in
theorem square_any (k : Nat) (hk : k < 8) (w : World) :
    Calls Try.prog 45 #[.int .i64 (k : Int)] w fun e w' => e = .returned (.int .u64 (n64 (g64 squares k))) ∧ Below w.heap.size w w' := by
  have hsq : squares.length = 8 := by decide +kernel
  have hc : (w.alloc (Obj.cells (c64 squares).toArray 103)).cell? ⟨w.heap.size, k, none⟩ = some (.int .u64 (n64 (g64 squares k))) := (Bk.new w _ _).at_ (c64_at (by omega))
  go_enter Try.func45, Try.ntmps45
  go_wp2_with (refine wpList_buildSlice rfl _ 103 _ _ rfl Try.underlying104 1 _ infoU64 (by decide) (by decide) (c64 squares).toArray (by kernel_rfl) ?_)
  go_ret
  exact ⟨rfl, (Below.refl _ _).alloc (Nat.le_refl _) _⟩
set_option maxRecDepth 100000 in
set_option maxHeartbeats 1000000 in
theorem cube_any (k : Nat) (hk : k < 80) (w : World) :
    Calls Try.prog 48 #[.int .i64 (k : Int)] w fun e w' => e = .returned (.int .u64 (n64 (g64 cubes k))) ∧ Below w.heap.size w w' := by
  have hsq : cubes.length = 80 := by decide +kernel
  have hc : (w.alloc (Obj.cells (c64 cubes).toArray 103)).cell? ⟨w.heap.size, k, none⟩ = some (.int .u64 (n64 (g64 cubes k))) := (Bk.new w _ _).at_ (c64_at (by omega))
  go_enter Try.func48, Try.ntmps48
  go_wp2_with (refine wpList_buildSlice rfl _ 103 _ _ rfl Try.underlying104 1 _ infoU64 (by decide) (by decide) (c64 cubes).toArray (by kernel_rfl) ?_)
  go_ret
  exact ⟨rfl, (Below.refl _ _).alloc (Nat.le_refl _) _⟩
end Go.Proofs.Ytlegpkdighoflaa
namespace Go.Proofs.Ytlegpkdighoflaa
namespace Sh
def up (S : List UInt32) : List UInt64 := S.map (·.toUInt64)
theorem length_up (S : List UInt32) : (up S).length = S.length := by simp [up]
theorem g64_up (S : List UInt32) (k : Nat) : g64 (up S) k = (g32 S k).toUInt64 := by
  unfold g64 g32 up
  simp only [List.getD_eq_getElem?_getD, List.getElem?_map]
  cases S[k]? <;> simp
/-- A number divided by 256 so many times; its last bytes. -/
def sd (N : UInt64) : Nat → UInt64
  | 0 => N
  | j + 1 => sd N j / 256
def lb (N : UInt64) : Nat → List UInt8
  | 0 => []
  | j + 1 => (sd N j % 256).toUInt8 :: lb N j
theorem length_lb (N : UInt64) (j : Nat) : (lb N j).length = j := by
  induction j with
  | zero => rfl
  | succ j ih => simp [lb, ih]
theorem byte_sd (x : UInt64) : (x % 256).toUInt8 = x.toUInt8 := by
  apply UInt8.toNat_inj.1
  rw [UInt64.toNat_toUInt8, UInt64.toNat_toUInt8, UInt64.toNat_mod]
  show x.toNat % 256 % 2 ^ 8 = x.toNat % 2 ^ 8
  omega
theorem toNat_sd (N : UInt64) (j : Nat) : (sd N j).toNat = N.toNat / 256 ^ j := by
  induction j with
  | zero => simp [sd]
  | succ j ih =>
    unfold sd
    rw [UInt64.toNat_div, ih, Nat.pow_succ, ← Nat.div_div_eq_div_mul]
    rfl
theorem shr_sd (N : UInt64) (j : Nat) (h : j < 8) : (sd N j).toUInt8 = (N >>> UInt64.ofNat (8 * j)).toUInt8 := by
  apply UInt8.toNat_inj.1
  rw [UInt64.toNat_toUInt8, UInt64.toNat_toUInt8, toNat_sd, UInt64.toNat_shiftRight, UInt64.toNat_ofNat', Nat.shiftRight_eq_div_pow]
  have e : 8 * j % 2 ^ 64 % 64 = 8 * j := by omega
  rw [e, Nat.pow_mul]
theorem lb_eight (N : UInt64) : lb N 8 = be64 N := by
  simp only [lb, byte_sd]
  rw [shr_sd N 7 (by omega), shr_sd N 6 (by omega), shr_sd N 5 (by omega), shr_sd N 4 (by omega), shr_sd N 3 (by omega), shr_sd N 2 (by omega), shr_sd N 1 (by omega)]
  rfl
theorem sd_big (N : UInt64) (j : Nat) (h : 8 ≤ j) : sd N j = 0 := by
  apply UInt64.toNat_inj.1
  rw [toNat_sd]
  have hN := UInt64.toNat_lt N
  have : 256 ^ 8 ≤ 256 ^ j := Nat.pow_le_pow_right (by omega) h
  have e : (256 : Nat) ^ 8 = 2 ^ 64 := by decide
  exact Nat.div_eq_of_lt (by omega)
theorem lb_sixteen (N : UInt64) : lb N 16 = List.replicate 8 0 ++ be64 N := by
  rw [← lb_eight]
  have e : ∀ j, 8 ≤ j → (sd N j % 256).toUInt8 = 0 := fun j h => by rw [sd_big N j h]; rfl
  have s : ∀ j, lb N (j + 1) = (sd N j % 256).toUInt8 :: lb N j := fun _ => rfl
  rw [s 15, s 14, s 13, s 12, s 11, s 10, s 9, s 8]
  rw [e 15 (by omega), e 14 (by omega), e 13 (by omega), e 12 (by omega), e 11 (by omega), e 10 (by omega), e 9 (by omega), e 8 (by omega)]
  rfl
/-- The length's bytes, filled in from the end. -/
def fl (L : Nat) (N : UInt64) (r : Nat) : List UInt8 := List.replicate r 0 ++ lb N (L - r)
theorem length_fl (L : Nat) (N : UInt64) (r : Nat) (h : r ≤ L) : (fl L N r).length = L := by simp [fl, length_lb]; omega
theorem fl_set (L : Nat) (N : UInt64) (r : Nat) (h0 : 0 < r) (h : r ≤ L) : (fl L N r).set (r - 1) (sd N (L - r) % 256).toUInt8 = fl L N (r - 1) := by
  obtain ⟨s, rfl⟩ : ∃ s, r = s + 1 := ⟨r - 1, by omega⟩
  unfold fl
  rw [Nat.add_sub_cancel]
  have e : L - s = L - (s + 1) + 1 := by omega
  rw [e]
  show _ = List.replicate s 0 ++ ((sd N (L - (s + 1)) % 256).toUInt8 :: lb N (L - (s + 1)))
  rw [List.replicate_succ', List.append_assoc, List.set_append_right _ _ (by simp)]
  simp
/-- A word out of its first j bytes, as the reference gathers it. -/
def pw (s : Nat) (q : List UInt8) (t : Nat) : Nat → UInt64
  | 0 => 0
  | j + 1 => pw s q t j * 256 + (g8 q (s * t + j)).toUInt64
theorem pw32 (q : List UInt8) (t : Nat) : pw 4 q t 4 = (word32 q t).toUInt64 := by
  simp only [pw, word32, Nat.add_zero]
  generalize g8 q (4 * t) = a
  generalize g8 q (4 * t + 1) = b
  generalize g8 q (4 * t + 2) = c
  generalize g8 q (4 * t + 3) = d
  have ha : a.toNat < 256 := UInt8.toNat_lt a
  have hb : b.toNat < 256 := UInt8.toNat_lt b
  have hc : c.toNat < 256 := UInt8.toNat_lt c
  have hd : d.toNat < 256 := UInt8.toNat_lt d
  apply UInt64.toNat_inj.1
  simp only [UInt64.toNat_add, UInt64.toNat_mul, UInt32.toNat_toUInt64, UInt32.toNat_or, UInt32.toNat_shiftLeft, UInt8.toNat_toUInt32, UInt8.toNat_toUInt64]
  show ((((0 * 256 % 2 ^ 64 + a.toNat) % 2 ^ 64 * 256 % 2 ^ 64 + b.toNat) % 2 ^ 64 * 256 % 2 ^ 64 + c.toNat) % 2 ^ 64 * 256 % 2 ^ 64 + d.toNat) % 2 ^ 64 = a.toNat <<< 24 % 2 ^ 32 ||| b.toNat <<< 16 % 2 ^ 32 ||| c.toNat <<< 8 % 2 ^ 32 ||| d.toNat
  simp only [Nat.shiftLeft_eq]
  rw [Nat.mod_eq_of_lt (show a.toNat * 2 ^ 24 < 2 ^ 32 by omega), Nat.mod_eq_of_lt (show b.toNat * 2 ^ 16 < 2 ^ 32 by omega), Nat.mod_eq_of_lt (show c.toNat * 2 ^ 8 < 2 ^ 32 by omega)]
  rw [show a.toNat * 2 ^ 24 = 2 ^ 24 * a.toNat by omega, ← Nat.two_pow_add_eq_or_of_lt (show b.toNat * 2 ^ 16 < 2 ^ 24 by omega)]
  rw [show 2 ^ 24 * a.toNat + b.toNat * 2 ^ 16 = 2 ^ 16 * (2 ^ 8 * a.toNat + b.toNat) by omega, ← Nat.two_pow_add_eq_or_of_lt (show c.toNat * 2 ^ 8 < 2 ^ 16 by omega)]
  rw [show 2 ^ 16 * (2 ^ 8 * a.toNat + b.toNat) + c.toNat * 2 ^ 8 = 2 ^ 8 * (2 ^ 16 * a.toNat + 2 ^ 8 * b.toNat + c.toNat) by omega, ← Nat.two_pow_add_eq_or_of_lt (show d.toNat < 2 ^ 8 by omega)]
  omega
theorem pw_fold (s : Nat) (q : List UInt8) (t j : Nat) (h : s * t + s ≤ q.length) (hj : j ≤ s) : pw s q t j = ((q.drop (s * t)).take j).foldl (fun (m : UInt64) x => m <<< 8 ||| x.toUInt64) (0 : UInt64) := by
  induction j with
  | zero => simp [pw]
  | succ j ih =>
    have e : (q.drop (s * t)).take (j + 1) = (q.drop (s * t)).take j ++ [g8 q (s * t + j)] := by
      have hl : s * t + j < q.length := by omega
      rw [List.take_add_one]
      congr 1
      simp [g8, List.getElem?_drop, hl]
    rw [e, List.foldl_append, ← ih (by omega)]
    simp only [pw, word64_step, List.foldl_cons, List.foldl_nil]
theorem pw64 (q : List UInt8) (t : Nat) (h : 8 * t + 8 ≤ q.length) : pw 8 q t 8 = word64 q t := pw_fold 8 q t 8 h (by omega)
end Sh
end Go.Proofs.Ytlegpkdighoflaa
namespace Go.Proofs.Ytlegpkdighoflaa
open Go Go.RowKit Sh
theorem Own8.empty (w : World) (base : Nat) (hb : base ≤ w.heap.size) : Own8 (w.alloc (.cells #[] 5)) base (.slice (some ⟨w.heap.size, 0, none⟩) 0 0) [] :=
  ⟨rfl, .inr ⟨w.heap.size, 0, #[], rfl, hb, heap_alloc_new w _, Nat.le_refl _, by simp [maxLen], rfl, rfl⟩⟩
theorem By.alloc {w : World} {lo B : Nat} {v : Value} {l : List UInt8} (h : By w lo B v l) (hB : B ≤ w.heap.size) (o : Obj) : By (w.alloc o) lo B v l := h.below (((Below.refl _ _).alloc (Nat.le_refl _) _).mono hB)
theorem Bk.by8 {w : World} {g : Nat} {l : List UInt8} (h : Bk w g 5 (c8 l)) (n : Nat) (hn : n = l.length) (hl : l.length ≤ 1000000) : By w 0 w.heap.size (.slice (some ⟨g, 0, none⟩) n n) l := by
  subst hn
  refine By.mk_ (Nat.le_refl _) (by simp only [maxLen]; omega) (.inr ⟨g, 0, rfl, Nat.zero_le _, h.lt, fun j u hj => ?_⟩)
  rw [Nat.zero_add]; exact h.at_ hj
theorem grown_set {W w : World} {g : Nat} (h : W.grownBy w (some g)) (i : Nat) (u : Value) : W.grownBy (w.setCell ⟨g, i, none⟩ u) (some g) :=
  ⟨h.os, h.tape, h.output, by simpa using h.size, fun k hk hne => (Below.heap_setCell w _ u k (by intro e; exact hne (by rw [e]))).trans (h.block k hk hne)⟩
theorem fl_full (L : Nat) (N : UInt64) : fl L N L = z8 L := by simp [fl, lb, z8]
theorem infoUint : (Try.prog.info? 84).map (fun i => (i.size, i.zero)) = some (1, some (.int .u64 0)) := by kernel_rfl
theorem infoU64b : (Try.prog.info? 103).map (fun i => (i.zero, i.size, i.bytes)) = some (some (.int .u64 0), 1, 8) := by kernel_rfl
theorem made8 (n : Nat) : madeCells #[.int .u8 0] n = (c8 (z8 n)).toArray := by
  apply Array.ext'
  simp only [madeCells, c8, z8]
  apply List.ext_getElem
  · simp
  · intro i h1 h2
    simp at h1
    have e : v8 0 = .int .u8 0 := rfl
    simp [Nat.mod_one, e]
theorem made64 (n : Nat) : madeCells #[.int .u64 0] n = (c64 (z64 n)).toArray := by
  apply Array.ext'
  simp only [madeCells, c64, z64]
  apply List.ext_getElem
  · simp
  · intro i h1 h2
    simp at h1
    have e : v64 0 = .int .u64 0 := rfl
    simp [Nat.mod_one, e]
section
variable {ops : Array Oper} {rest : List Oper} {o : Oper} {a : Act} {w : World} {Q : Exit → Act → World → Prop}
theorem wpList_make8 (hg : o.guard = none) (l c : Operand) (hop : o.op = .makeSlice 22 l c) (n : Nat) (kl kc : IntKind) (hl : a.eval l = .int kl (n : Int)) (hc : a.eval c = .int kc (n : Int)) (hn : n ≤ 1000000)
    (hK : wpList Try.prog ops Q rest (a.put o.dst (.slice (some ⟨w.heap.size, 0, none⟩) n n)) (w.alloc (.cells (c8 (z8 n)).toArray 5))) : wpList Try.prog ops Q (o :: rest) a w := by
  obtain ⟨i, hi, hz⟩ := Option.map_eq_some_iff.1 info8
  simp only [Prod.mk.injEq] at hz
  refine wpList_make_row w hg l c _ hop _ i _ Try.underlying22 hi hz.1 hz.2.1 rfl kl kc n hl hc (by rw [hz.2.2]; omega) (by omega) ?_
  rw [made8]; exact hK
theorem wpList_make64 (hg : o.guard = none) (l c : Operand) (hop : o.op = .makeSlice 104 l c) (n : Nat) (kl kc : IntKind) (hl : a.eval l = .int kl (n : Int)) (hc : a.eval c = .int kc (n : Int)) (hn : n ≤ 1000000)
    (hK : wpList Try.prog ops Q rest (a.put o.dst (.slice (some ⟨w.heap.size, 0, none⟩) n n)) (w.alloc (.cells (c64 (z64 n)).toArray 103))) : wpList Try.prog ops Q (o :: rest) a w := by
  obtain ⟨i, hi, hz⟩ := Option.map_eq_some_iff.1 infoU64b
  simp only [Prod.mk.injEq] at hz
  refine wpList_make_row w hg l c _ hop _ i _ Try.underlying104 hi hz.1 hz.2.1 rfl kl kc n hl hc (by rw [hz.2.2]; omega) (by omega) ?_
  rw [made64]; exact hK
/-- append([]uint64{}, x...) -/
theorem app64 (hgd : o.guard = none) (s x : Operand) (ho : o.op = .call { callee := .builtin .append, args := #[s, x], argTypes := #[104, 104] })
    (hs : a.eval s = .slice (some ⟨w.heap.size, 0, none⟩) 0 0) (g n c : Nat) (m : List UInt64) (hx : a.eval x = .slice (some ⟨g, 0, none⟩) n c) (hn : n = m.length) (hm : Bk w g 103 (c64 m)) (hsz : m.length ≤ 1000000)
    (h : ∀ v w', Sl w' w.heap.size w'.heap.size v (c64 m) → Below w.heap.size w w' → w.heap.size < w'.heap.size → wpList Try.prog ops Q rest (a.put o.dst v) w') : wpList Try.prog ops Q (o :: rest) a (w.alloc (.cells #[] 103)) :=
  wpList_plain hgd fun _ hK => by
    obtain ⟨i0, hi0, hz0, hz1, hz2⟩ := info_parts infoU64b
    have hown : (w.alloc (.cells #[] 103)).ownsRow w.heap.size 103 1 (.slice (some ⟨w.heap.size, 0, none⟩) 0 0) 0 [] :=
      ⟨rfl, .inr ⟨w.heap.size, 0, #[], rfl, Nat.le_refl _, heap_alloc_new w _, Nat.le_refl _, by simp [maxLen], rfl, rfl⟩⟩
    have hone : ∀ u ∈ c64 m, u.oneCell' = true := by intro u hu; obtain ⟨x, _, rfl⟩ := List.mem_map.1 hu; rfl
    have hm' := hm.alloc (.cells #[] 103)
    obtain ⟨v', w', hr, h6, h7, _, _⟩ := run_append_own_at (P := Try.prog) (w.alloc (.cells #[] 103)) w.heap.size 104 o.type 103 i0 (.int .u64 0) 1 8 Try.underlying104 hi0 hz0 hz1 hz2 rfl (by decide) _ 0 [] hown ⟨g, 0, none⟩ n c (c64 m) (by simp [hn])
      (fun j u hj => by rw [addr_lit, Nat.zero_add]; exact hm'.at_ hj) hone (by simp only [maxLen]; omega) (by omega) (by simp)
    unfold Oper.wp execOp
    simp only [ho, resolve, invoke, builtin, Sem.run_bind, Sem.run_pure, Result.andThen_ok, List.map_toArray, List.map_cons, List.map_nil, hs, hx, hr]
    have hsz' := h7.size
    simp at hsz'
    refine hK _ _ (h v' w' ?_ (((Below.refl _ _).alloc (Nat.le_refl _) _).grown h7 (by simp) fun k hk => ?_) (by omega))
    · have := Sl.of_own h6; simpa using this
    · simp [Value.ownBlock] at hk; omega
end
end Go.Proofs.Ytlegpkdighoflaa
namespace Go.Proofs.Ytlegpkdighoflaa
namespace Sh
/-- The low 32 bits of a word; a name that no simp set opens. -/
def low (x : UInt64) : UInt64 := x.toUInt32.toUInt64
theorem low_def (x : UInt64) : low x = x.toUInt32.toUInt64 := rfl
theorem low_32 (x : UInt64) : (low x).toUInt32 = x.toUInt32 := by unfold low; exact UInt32.toUInt32_toUInt64 _
theorem th32_true (x : UInt32) (a b : Int) (c : Nat) : th32 x a b c true = rotl32 x (-a) ^^^ rotl32 x (-b) ^^^ x >>> UInt32.ofNat c := rfl
theorem th32_false (x : UInt32) (a b c : Int) : th32 x a b c false = rotl32 x (-a) ^^^ rotl32 x (-b) ^^^ rotl32 x (-c) := rfl
theorem th64_true (x : UInt64) (a b : Int) (c : Nat) : th64 x a b c true = rotl64 x (-a) ^^^ rotl64 x (-b) ^^^ x >>> UInt64.ofNat c := rfl
theorem th64_false (x : UInt64) (a b c : Int) : th64 x a b c false = rotl64 x (-a) ^^^ rotl64 x (-b) ^^^ rotl64 x (-c) := rfl
theorem next32_up (y m x l : UInt32) : low ((th32 y 17 19 10 true).toUInt64 + m.toUInt64 + (th32 x 7 18 3 true).toUInt64 + l.toUInt64) = (next32 y m x l).toUInt64 := by
  unfold low
  congr 1
  simp only [UInt64.toUInt32_add, UInt32.toUInt32_toUInt64]
  rfl
theorem next64_up (y m x l : UInt64) : th64 y 19 61 6 true + m + th64 x 1 8 7 true + l = next64 y m x l := rfl
def tA32 (V : List UInt32) (k : Nat) (m : UInt32) : UInt64 :=
  (g32 V 7).toUInt64 + (th32 (g32 V 4) 6 11 25 false).toUInt64 + ((g32 V 4).toUInt64 &&& (g32 V 5).toUInt64 ||| low (~~~(g32 V 4).toUInt64) &&& (g32 V 6).toUInt64) + g64 cubes k >>> 32 + m.toUInt64
def tB32 (V : List UInt32) : UInt64 :=
  (th32 (g32 V 0) 2 13 22 false).toUInt64 + ((g32 V 0).toUInt64 &&& (g32 V 1).toUInt64 ||| (g32 V 0).toUInt64 &&& (g32 V 2).toUInt64 ||| (g32 V 1).toUInt64 &&& (g32 V 2).toUInt64)
theorem tA32_low (V : List UInt32) (k : Nat) (m : UInt32) : (tA32 V k m).toUInt32 = ta32 V (K32 k) m := by
  unfold tA32 ta32 K32
  simp only [UInt64.toUInt32_add, UInt32.toUInt32_toUInt64, UInt64.toUInt32_or, UInt64.toUInt32_and, low_32, UInt64.toUInt32_not]
  rw [ch32]
  rfl
theorem tB32_low (V : List UInt32) : (tB32 V).toUInt32 = tb32 V := by
  unfold tB32 tb32
  simp only [UInt64.toUInt32_add, UInt32.toUInt32_toUInt64, UInt64.toUInt32_or, UInt64.toUInt32_and]
  rw [maj32]
  rfl
theorem round_up32 (V : List UInt32) (k : Nat) (m : UInt32) : up (round32 V (K32 k) m) =
    [low (tA32 V k m + tB32 V), (g32 V 0).toUInt64, (g32 V 1).toUInt64, (g32 V 2).toUInt64, low ((g32 V 3).toUInt64 + tA32 V k m), (g32 V 4).toUInt64, (g32 V 5).toUInt64, (g32 V 6).toUInt64] := by
  simp only [low_def, UInt64.toUInt32_add, tA32_low, tB32_low, UInt32.toUInt32_toUInt64]
  rfl
def tA64 (V : List UInt64) (k : Nat) (m : UInt64) : UInt64 :=
  g64 V 7 + th64 (g64 V 4) 14 18 41 false + (g64 V 4 &&& g64 V 5 ||| ~~~g64 V 4 &&& g64 V 6) + g64 cubes k >>> 0 + m
def tB64 (V : List UInt64) : UInt64 :=
  th64 (g64 V 0) 28 34 39 false + (g64 V 0 &&& g64 V 1 ||| g64 V 0 &&& g64 V 2 ||| g64 V 1 &&& g64 V 2)
theorem shr_zero (x : UInt64) : x >>> 0 = x := by simp
theorem round_up64 (V : List UInt64) (k : Nat) (m : UInt64) : round64 V (K64 k) m =
    [tA64 V k m + tB64 V, g64 V 0, g64 V 1, g64 V 2, g64 V 3 + tA64 V k m, g64 V 4, g64 V 5, g64 V 6] := by
  have e1 : tA64 V k m = ta64 V (K64 k) m := by
    unfold tA64 ta64 K64
    rw [ch64, shr_zero]
    rfl
  have e2 : tB64 V = tb64 V := by
    unfold tB64 tb64
    rw [maj64]
    rfl
  rw [e1, e2]
  rfl
/-! the schedule, filled up with noughts -/
def xs (L : Nat) (X : List UInt64) : List UInt64 := X ++ z64 (L - X.length)
theorem length_xs (L : Nat) (X : List UInt64) (h : X.length ≤ L) : (xs L X).length = L := by simp [xs]; omega
theorem xs_set (L : Nat) (X : List UInt64) (t : Nat) (x : UInt64) (ht : X.length = t) (h : t < L) : (xs L X).set t x = xs L (X ++ [x]) := by
  subst ht
  unfold xs z64
  obtain ⟨d, hd⟩ : ∃ d, L - X.length = d + 1 := ⟨L - X.length - 1, by omega⟩
  rw [hd, List.length_append, List.length_singleton, show L - (X.length + 1) = d by omega, List.set_append_right _ _ (Nat.le_refl _), Nat.sub_self, List.replicate_succ]
  simp
theorem xs_zero (L : Nat) (X : List UInt64) (t : Nat) (ht : X.length = t) (h : t < L) : (xs L X).set t 0 = xs L X := by
  rw [xs_set L X t 0 ht h]
  unfold xs z64
  obtain ⟨d, hd⟩ : ∃ d, L - X.length = d + 1 := ⟨L - X.length - 1, by omega⟩
  rw [hd, List.length_append, List.length_singleton, show L - (X.length + 1) = d by omega, List.replicate_succ]
  simp
theorem g64_xs (L : Nat) (X : List UInt64) (i : Nat) (h : i < X.length) : g64 (xs L X) i = g64 X i := by
  unfold g64 xs
  rw [List.getD_eq_getElem?_getD, List.getD_eq_getElem?_getD, List.getElem?_append_left h]
theorem xs_full (L : Nat) (X : List UInt64) (h : X.length = L) : xs L X = X := by simp [xs, h, z64]
theorem xs_nil (L : Nat) : xs L [] = z64 L := rfl
theorem W32_low (q : List UInt8) (t : Nat) (h : t < 16) : up (W32 q (t + 1)) = up (W32 q t) ++ [pw 4 q t 4] := by
  rw [pw32]
  show up (W32 q t ++ [if t < 16 then word32 q t else _]) = _
  rw [if_pos h]
  simp [up]
theorem W32_high (q : List UInt8) (t : Nat) (h : 16 ≤ t) : up (W32 q (t + 1)) = up (W32 q t) ++ [low ((th32 (g32 (W32 q t) (t - 2)) 17 19 10 true).toUInt64 + (g32 (W32 q t) (t - 7)).toUInt64 + (th32 (g32 (W32 q t) (t - 15)) 7 18 3 true).toUInt64 + (g32 (W32 q t) (t - 16)).toUInt64)] := by
  rw [next32_up]
  show up (W32 q t ++ [if t < 16 then word32 q t else next32 _ _ _ _]) = _
  rw [if_neg (by omega)]
  simp [up]
theorem W64_low (q : List UInt8) (t : Nat) (h : t < 16) (hq : 8 * t + 8 ≤ q.length) : W64 q (t + 1) = W64 q t ++ [pw 8 q t 8] := by
  rw [pw64 q t hq]
  show W64 q t ++ [if t < 16 then word64 q t else _] = _
  rw [if_pos h]
theorem W64_high (q : List UInt8) (t : Nat) (h : 16 ≤ t) : W64 q (t + 1) = W64 q t ++ [th64 (g64 (W64 q t) (t - 2)) 19 61 6 true + g64 (W64 q t) (t - 7) + th64 (g64 (W64 q t) (t - 15)) 1 8 7 true + g64 (W64 q t) (t - 16)] := by
  rw [next64_up]
  show W64 q t ++ [if t < 16 then word64 q t else next64 _ _ _ _] = _
  rw [if_neg (by omega)]
theorem add_up32 (S V : List UInt32) (hS : S.length = 8) (hV : V.length = 8) (k : Nat) (hk : k < 8) :
    ((up (add32 S V)).take k ++ (up S).drop k).set k (low ((g32 S k).toUInt64 + (g32 V k).toUInt64)) = (up (add32 S V)).take (k + 1) ++ (up S).drop (k + 1) := by
  refine set_join _ _ _ _ (by simp [up, add32, hS, hV]) (by simp [up, add32, hS, hV]; omega) ?_
  unfold up
  rw [List.getElem?_map, add32_at S V hS hV k hk, Option.map_some]
  unfold low
  congr 2
  simp
theorem add_up64 (S V : List UInt64) (hS : S.length = 8) (hV : V.length = 8) (k : Nat) (hk : k < 8) :
    ((add64 S V).take k ++ S.drop k).set k (g64 S k + g64 V k) = (add64 S V).take (k + 1) ++ S.drop (k + 1) := add64_step S V hS hV k hk
def hs32 : List UInt64 := squares.map fun (r : UInt64) => r >>> 32
theorem hs32_eq : hs32 = up (squares.map fun (r : UInt64) => (r >>> 32).toUInt32) := by decide +kernel
theorem hs32_set (k : Nat) (hk : k < 8) : (hs32.take k ++ (z64 8).drop k).set k (g64 squares k >>> 32) = hs32.take (k + 1) ++ (z64 8).drop (k + 1) := by
  have hl : squares.length = 8 := by decide +kernel
  refine set_join _ _ _ _ (by simp [hs32, hl]) (by simp [hs32, hl]; omega) ?_
  unfold hs32 g64
  rw [List.getElem?_map, List.getElem?_eq_getElem (by omega)]
  simp [hl, hk]
theorem hs64_set (k : Nat) (hk : k < 8) : (squares.take k ++ (z64 8).drop k).set k (g64 squares k >>> 0) = squares.take (k + 1) ++ (z64 8).drop (k + 1) := by
  have hl : squares.length = 8 := by decide +kernel
  rw [shr_zero]
  refine set_join _ _ _ _ (by simp [hl]) (by omega) ?_
  unfold g64
  rw [List.getElem?_eq_getElem (by omega)]
  simp [hl, hk]
end Sh
open Go Go.RowKit Sh
theorem cutlow (x : UInt64) (w : World) :
    Calls Try.prog 46 #[.int .u64 (n64 x), .int .u64 32] w fun e w' => e = .returned (.int .u64 (n64 (low x))) ∧ w' = w := cut32 x w
end Go.Proofs.Ytlegpkdighoflaa
namespace Go.Proofs.Ytlegpkdighoflaa
open Go Go.RowKit Sh
/-- The slice value v reads as these eight words, in a block from lo on. -/
def V8 (w : World) (lo : Nat) (v : Value) (V : List UInt64) : Prop := ∃ c g o, v = .slice (some ⟨g, o, none⟩) 8 c ∧ 8 ≤ c ∧ c ≤ 9223372036854775807 ∧ lo ≤ g ∧ g < w.heap.size ∧ ∀ j, j < 8 → w.cell? ⟨g, o + j, none⟩ = some (.int .u64 (n64 (g64 V j)))
section
variable {w w' : World} {lo : Nat} {v : Value} {V : List UInt64}
theorem V8.of_sl (h : Sl w lo w.heap.size v (c64 V)) (hV : V.length = 8) : V8 w lo v V := by
  obtain ⟨A, c, h1, h2, h3, h4⟩ := h
  have hl : (c64 V).length = 8 := by simp [c64, hV]
  rw [hl] at h1 h2
  obtain ⟨g, o, rfl, hlo, hg, hc⟩ := h4.some (by omega)
  exact ⟨c, g, o, h1, h2, by unfold maxLen at h3; exact h3, hlo, hg, fun j hj => hc j _ (c64_at (by omega))⟩
theorem V8.below (h : V8 w lo v V) (hb : Below w.heap.size w w') : V8 w' lo v V := by
  obtain ⟨c, g, o, h1, h2, h3, h4, h5, h6⟩ := h
  exact ⟨c, g, o, h1, h2, h3, h4, by have := hb.size; omega, fun j hj => (hb.cell h5).trans (h6 j hj)⟩
theorem V8.drewN (h : V8 w lo v V) (n : Nat) : V8 (w.drewN n) lo v V := h
theorem V8.less {lo' : Nat} (h : V8 w lo v V) (hl : lo' ≤ lo) : V8 w lo' v V := by
  obtain ⟨c, g, o, h1, h2, h3, h4, h5, h6⟩ := h
  exact ⟨c, g, o, h1, h2, h3, by omega, h5, h6⟩
theorem V8.far (h : V8 w lo v V) {p : Addr} (hp : p.block < lo) (u : Value) : V8 (w.setCell p u) lo v V := by
  obtain ⟨c, g, o, h1, h2, h3, h4, h5, h6⟩ := h
  exact ⟨c, g, o, h1, h2, h3, h4, by simpa using h5, fun j hj => (World.cell?_of_block (Below.heap_setCell w p u g (by omega))).trans (h6 j hj)⟩
theorem V8.new (W : World) (V : List UInt64) (hV : V.length = 8) : V8 (W.alloc (.cells (c64 V).toArray 103)) W.heap.size (.slice (some ⟨W.heap.size, 0, none⟩) 8 8) V :=
  ⟨8, W.heap.size, 0, rfl, Nat.le_refl _, by omega, Nat.le_refl _, by simp, fun j hj => (Bk.new W 103 (c64 V)).at_ (by rw [Nat.zero_add]; exact c64_at (by omega))⟩
end
theorem out32_more (S : List UInt32) (k j : Nat) (hk : k < S.length) (hj : j < 4) (x : UInt8) (hx : (bytes32 (g32 S k))[j]? = some x) : (out32 S).take (4 * k + j) ++ [x] = (out32 S).take (4 * k + (j + 1)) := by
  rw [show 4 * k + (j + 1) = (4 * k + j) + 1 by omega, List.take_add_one, out32_at S k j hk hj, hx]
  rfl
theorem out64_more (S : List UInt64) (k j : Nat) (hk : k < S.length) (hj : j < 8) (x : UInt8) (hx : (bytes64 (g64 S k))[j]? = some x) : (out64 S).take (8 * k + j) ++ [x] = (out64 S).take (8 * k + (j + 1)) := by
  rw [show 8 * k + (j + 1) = (8 * k + j) + 1 by omega, List.take_add_one, out64_at S k j hk hj, hx]
  rfl
theorem low_byte (x : UInt32) (s : Nat) (hs : s < 32) : (x.toUInt64 >>> UInt64.ofNat s).toUInt8 = (x >>> UInt32.ofNat s).toUInt8 := by
  rw [up_shr x s hs]
  generalize x >>> UInt32.ofNat s = y
  simp
def sh8 (x : UInt64) (s : Nat) : UInt64 := x >>> UInt64.ofNat (8 * s)
@[go_sem ↓ high] theorem shr64_mul8 (x : UInt64) (k : IntKind) (s : Nat) (hs : s < 8) : Op.shift .shr .u64 (n64 x) k (8 * (s : Int)) = pure (.int .u64 (n64 (sh8 x s))) := by
  have e : (8 : Int) * (s : Int) = ((8 * s : Nat) : Int) := by omega
  rw [e]
  exact shrA64 x k (8 * s) (by omega)
theorem byte32_at (x : UInt32) (s : Nat) (hs : s < 4) : (bytes32 x)[3 - s]? = some (sh8 x.toUInt64 s).toUInt8 := by
  unfold sh8
  rw [low_byte x (8 * s) (by omega)]
  have h : s = 0 ∨ s = 1 ∨ s = 2 ∨ s = 3 := by omega
  rcases h with rfl | rfl | rfl | rfl
  · show some x.toUInt8 = some (x >>> 0).toUInt8
    simp
  · rfl
  · rfl
  · rfl
theorem byte64_at (x : UInt64) (s : Nat) (hs : s < 8) : (bytes64 x)[7 - s]? = some (sh8 x s).toUInt8 := by
  unfold sh8
  have h : s = 0 ∨ s = 1 ∨ s = 2 ∨ s = 3 ∨ s = 4 ∨ s = 5 ∨ s = 6 ∨ s = 7 := by omega
  rcases h with rfl | rfl | rfl | rfl | rfl | rfl | rfl | rfl
  · show some x.toUInt8 = some (x >>> 0).toUInt8
    simp
  · rfl
  · rfl
  · rfl
  · rfl
  · rfl
  · rfl
  · rfl
theorem up_join (A B : List UInt64) (k : Nat) (hk : k < A.length) : g64 (A.take k ++ B.drop k) k = g64 B k := g64_join A B k hk
end Go.Proofs.Ytlegpkdighoflaa
namespace Go.Proofs.Ytlegpkdighoflaa
open Go Go.RowKit
def loopsOf : Code → List Code
  | .loop c => .loop c :: loopsOf c
  | .seq a b => loopsOf a ++ loopsOf b
  | .block _ c => loopsOf c
  | .scope c => loopsOf c
  | .cond _ a b => loopsOf a ++ loopsOf b
  | _ => []
noncomputable def digLoop (k : Nat) : Code := (Try.f34.body.bind fun c => (loopsOf c)[k]?).getD .skip
def ns32 : List Value := [.int .u64 2, .int .u64 13, .int .u64 22, .int .u64 6, .int .u64 11, .int .u64 25, .int .u64 7, .int .u64 18, .int .u64 3, .int .u64 17, .int .u64 19, .int .u64 10]
def ns64 : List Value := [.int .u64 28, .int .u64 34, .int .u64 39, .int .u64 14, .int .u64 18, .int .u64 41, .int .u64 1, .int .u64 8, .int .u64 7, .int .u64 19, .int .u64 61, .int .u64 6]
end Go.Proofs.Ytlegpkdighoflaa
