/- The reference's turn, three, cut, square and cube. -/
import Derived.Test.YtpalomkcgfalnaaProg
import Derived.Test.YtpalomkcgfalnaaRefP
import Derived.Test.YtpalomkcgfalnaaConsts
import Derived.Test.YtpalomkcgfalnaaRot
import Derived.Test.YtpalomkcgfalnaaQt
import Derived.WalkKit
import Derived.WalkLawsBesides
import Derived.Lib.Hide
set_option linter.unusedVariables false
set_option linter.unusedSimpArgs false
namespace Go.Proofs.Ytpalomkcgfalnaa
open Go Go.RowKit Sh
theorem n64_nonneg (x : UInt64) : 0 ≤ n64 x := (n64_bd x).1
@[go_sem ↓ high] theorem rem64_32 (x : UInt64) : Op.intDiv .rem .u64 (n64 x) 4294967296 = pure (.int .u64 (n64 (x % 4294967296))) := by
  unfold Op.intDiv n64
  rw [if_neg (by decide), UInt64.toNat_mod]
  congr 2
@[go_sem ↓ high] theorem rem64_256 (x : UInt64) : Op.intDiv .rem .u64 (n64 x) 256 = pure (.int .u64 (n64 (x % 256))) := by
  unfold Op.intDiv n64
  rw [if_neg (by decide), UInt64.toNat_mod]
  congr 2
@[go_sem ↓ high] theorem mul64_256 (x : UInt64) : Op.intArith .mul .u64 (n64 x) 256 = pure (.int .u64 (n64 (x * 256))) := mul64 x 256
@[go_sem ↓ high] theorem mul64_8r (x : UInt64) : Op.intArith .mul .u64 (n64 x) 8 = pure (.int .u64 (n64 (x * 8))) := mul64 x 8
@[go_sem ↓ high] theorem quo64_256 (x : UInt64) : Op.intDiv .quo .u64 (n64 x) 256 = pure (.int .u64 (n64 (x / 256))) := by
  have h := wrapN64 (x.toNat / 256)
  have hx := lt64 x
  have e : Op.intDiv .quo .u64 (n64 x) 256 = pure (.int .u64 (IntKind.u64.wrap ((x.toNat / 256 : Nat) : Int))) := rfl
  rw [e, h, Nat.mod_eq_of_lt (by omega)]
  unfold n64
  rw [UInt64.toNat_div]
  rfl

set_option maxHeartbeats 400000 in
theorem turn32_s (x : UInt32) (s : Nat) (h0 : 0 < s) (h : s < 32) (w : World) :
    Calls Try.prog 73 #[.int .u64 (n64 x.toUInt64), .int .u64 (s : Int), .int .u64 32] w fun e w' => e = .returned (.int .u64 (n64 (rotl32 x (-(s : Int))).toUInt64)) ∧ w' = w := by
  have hs : IntKind.u64.wrap (32 - (s : Int)) = ((32 - s : Nat) : Int) := (IntWalk.u64_in _ (by omega)).trans (by omega)
  have h1 : s < 64 := by omega
  have h2 : 32 - s < 64 := by omega
  have ht := Lib.hid (turn32_eq x s h0 h)
  generalize x.toUInt64 = X at *
  go_enter Try.func73, Try.ntmps73
  go_wp2
  go_ret
  exact ⟨by rw [← ht.out]; rfl, rfl⟩
set_option maxHeartbeats 400000 in
theorem turn64_s (x : UInt64) (s : Nat) (h0 : 0 < s) (h : s < 64) (w : World) :
    Calls Try.prog 73 #[.int .u64 (n64 x), .int .u64 (s : Int), .int .u64 64] w fun e w' => e = .returned (.int .u64 (n64 (rotl64 x (-(s : Int))))) ∧ w' = w := by
  have hs : IntKind.u64.wrap (64 - (s : Int)) = ((64 - s : Nat) : Int) := (IntWalk.u64_in _ (by omega)).trans (by omega)
  have h2 : 64 - s < 64 := by omega
  have ht := Lib.hid (toNat_rotl64 x s h0 h)
  go_enter Try.func73, Try.ntmps73
  go_wp2
  go_ret
  exact ⟨by rw [← ht.out]; rfl, rfl⟩
theorem turn32 (x : UInt32) (n : Int) (h : 0 < n ∧ n < 32) (w : World) :
    Calls Try.prog 73 #[.int .u64 (n64 x.toUInt64), .int .u64 n, .int .u64 32] w fun e w' => e = .returned (.int .u64 (n64 (rotl32 x (-n)).toUInt64)) ∧ w' = w := by
  obtain ⟨s, rfl⟩ := Int.eq_ofNat_of_zero_le (show 0 ≤ n by omega)
  exact turn32_s x s (by omega) (by omega) w
theorem turn64 (x : UInt64) (n : Int) (h : 0 < n ∧ n < 64) (w : World) :
    Calls Try.prog 73 #[.int .u64 (n64 x), .int .u64 n, .int .u64 64] w fun e w' => e = .returned (.int .u64 (n64 (rotl64 x (-n)))) ∧ w' = w := by
  obtain ⟨s, rfl⟩ := Int.eq_ofNat_of_zero_le (show 0 ≤ n by omega)
  exact turn64_s x s (by omega) (by omega) w
theorem cut32 (x : UInt64) (w : World) :
    Calls Try.prog 54 #[.int .u64 (n64 x), .int .u64 32] w fun e w' => e = .returned (.int .u64 (n64 x.toUInt32.toUInt64)) ∧ w' = w := by
  have ht := Lib.hid (cut32_eq x)
  go_enter Try.func54, Try.ntmps54
  go_wp2
  go_ret
  exact ⟨by rw [← ht.out]; rfl, rfl⟩
theorem cut64 (x : UInt64) (w : World) :
    Calls Try.prog 54 #[.int .u64 (n64 x), .int .u64 64] w fun e w' => e = .returned (.int .u64 (n64 x)) ∧ w' = w := by
  go_enter Try.func54, Try.ntmps54
  go_wp2
  go_ret
  exact ⟨rfl, rfl⟩
def th32 (x : UInt32) (a b c : Int) (sh : Bool) : UInt32 := rotl32 x (-a) ^^^ rotl32 x (-b) ^^^ (if sh then x >>> UInt32.ofNat c.toNat else rotl32 x (-c))
def th64 (x : UInt64) (a b c : Int) (sh : Bool) : UInt64 := rotl64 x (-a) ^^^ rotl64 x (-b) ^^^ (if sh then x >>> UInt64.ofNat c.toNat else rotl64 x (-c))
set_option maxHeartbeats 400000 in
theorem three32_s (x : UInt32) (a b c : Int) (ha : 0 < a ∧ a < 32) (hb : 0 < b ∧ b < 32) (hc : 0 < c ∧ c < 32) (w : World) :
    Calls Try.prog 55 #[.int .u64 (n64 x.toUInt64), .int .u64 32, .int .u64 a, .int .u64 b, .int .u64 c, .bool true] w fun e w' => e = .returned (.int .u64 (n64 (th32 x a b c true).toUInt64)) ∧ w' = w := by
  obtain ⟨s, rfl⟩ := Int.eq_ofNat_of_zero_le (show 0 ≤ c by omega)
  have hs : s < 64 := by omega
  go_enter Try.func55, Try.ntmps55
  go_wp2_with fail
  refine (turn32 x a ha _).mono ?_; rintro e w' ⟨rfl, rfl⟩
  go_wp2_with fail
  refine (turn32 x b hb _).mono ?_; rintro e w' ⟨rfl, rfl⟩
  go_wp2_with fail
  go_ret
  refine ⟨?_, rfl⟩
  show Ending.returned (Value.int _ _) = _
  rw [up_shr x s (by omega), up_xor, up_xor]
  rfl
set_option maxHeartbeats 400000 in
theorem three32_t (x : UInt32) (a b c : Int) (ha : 0 < a ∧ a < 32) (hb : 0 < b ∧ b < 32) (hc : 0 < c ∧ c < 32) (w : World) :
    Calls Try.prog 55 #[.int .u64 (n64 x.toUInt64), .int .u64 32, .int .u64 a, .int .u64 b, .int .u64 c, .bool false] w fun e w' => e = .returned (.int .u64 (n64 (th32 x a b c false).toUInt64)) ∧ w' = w := by
  go_enter Try.func55, Try.ntmps55
  go_wp2_with fail
  refine (turn32 x a ha _).mono ?_; rintro e w' ⟨rfl, rfl⟩
  go_wp2_with fail
  refine (turn32 x b hb _).mono ?_; rintro e w' ⟨rfl, rfl⟩
  go_wp2_with fail
  refine (turn32 x c hc _).mono ?_; rintro e w' ⟨rfl, rfl⟩
  go_wp2_with fail
  go_ret
  refine ⟨?_, rfl⟩
  show Ending.returned (Value.int _ _) = _
  rw [up_xor, up_xor]
  rfl
theorem three32 (x : UInt32) (a b c : Int) (sh : Bool) (h : (0 < a ∧ a < 32) ∧ (0 < b ∧ b < 32) ∧ (0 < c ∧ c < 32)) (w : World) :
    Calls Try.prog 55 #[.int .u64 (n64 x.toUInt64), .int .u64 32, .int .u64 a, .int .u64 b, .int .u64 c, .bool sh] w fun e w' => e = .returned (.int .u64 (n64 (th32 x a b c sh).toUInt64)) ∧ w' = w := by
  cases sh
  · exact three32_t x a b c h.1 h.2.1 h.2.2 w
  · exact three32_s x a b c h.1 h.2.1 h.2.2 w
set_option maxHeartbeats 400000 in
theorem three64_s (x : UInt64) (a b c : Int) (ha : 0 < a ∧ a < 64) (hb : 0 < b ∧ b < 64) (hc : 0 < c ∧ c < 64) (w : World) :
    Calls Try.prog 55 #[.int .u64 (n64 x), .int .u64 64, .int .u64 a, .int .u64 b, .int .u64 c, .bool true] w fun e w' => e = .returned (.int .u64 (n64 (th64 x a b c true))) ∧ w' = w := by
  obtain ⟨s, rfl⟩ := Int.eq_ofNat_of_zero_le (show 0 ≤ c by omega)
  have hs : s < 64 := by omega
  go_enter Try.func55, Try.ntmps55
  go_wp2_with fail
  refine (turn64 x a ha _).mono ?_; rintro e w' ⟨rfl, rfl⟩
  go_wp2_with fail
  refine (turn64 x b hb _).mono ?_; rintro e w' ⟨rfl, rfl⟩
  go_wp2_with fail
  go_ret
  exact ⟨rfl, rfl⟩
set_option maxHeartbeats 400000 in
theorem three64_t (x : UInt64) (a b c : Int) (ha : 0 < a ∧ a < 64) (hb : 0 < b ∧ b < 64) (hc : 0 < c ∧ c < 64) (w : World) :
    Calls Try.prog 55 #[.int .u64 (n64 x), .int .u64 64, .int .u64 a, .int .u64 b, .int .u64 c, .bool false] w fun e w' => e = .returned (.int .u64 (n64 (th64 x a b c false))) ∧ w' = w := by
  go_enter Try.func55, Try.ntmps55
  go_wp2_with fail
  refine (turn64 x a ha _).mono ?_; rintro e w' ⟨rfl, rfl⟩
  go_wp2_with fail
  refine (turn64 x b hb _).mono ?_; rintro e w' ⟨rfl, rfl⟩
  go_wp2_with fail
  refine (turn64 x c hc _).mono ?_; rintro e w' ⟨rfl, rfl⟩
  go_wp2_with fail
  go_ret
  exact ⟨rfl, rfl⟩
theorem three64 (x : UInt64) (a b c : Int) (sh : Bool) (h : (0 < a ∧ a < 64) ∧ (0 < b ∧ b < 64) ∧ (0 < c ∧ c < 64)) (w : World) :
    Calls Try.prog 55 #[.int .u64 (n64 x), .int .u64 64, .int .u64 a, .int .u64 b, .int .u64 c, .bool sh] w fun e w' => e = .returned (.int .u64 (n64 (th64 x a b c sh))) ∧ w' = w := by
  cases sh
  · exact three64_t x a b c h.1 h.2.1 h.2.2 w
  · exact three64_s x a b c h.1 h.2.1 h.2.2 w
end Go.Proofs.Ytpalomkcgfalnaa
