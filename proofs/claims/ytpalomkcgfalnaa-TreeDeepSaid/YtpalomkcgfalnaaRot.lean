/- math/bits.RotateLeft32 and RotateLeft64 by an amount from -31 (-63) to -1: the word turned. -/
import Derived.Deep.Draws
import Derived.Test.YtpalomkcgfalnaaProg
import Derived.Test.YtpalomkcgfalnaaUints
import Derived.Test.YtpalomkcgfalnaaSha
import Derived.WalkKit
import Derived.WalkLawsBesides
import Derived.KernelRfl
set_option linter.unusedVariables false
set_option linter.unusedSimpArgs false
namespace Go.Proofs.Ytpalomkcgfalnaa
open Go.RowKit Sh
theorem wrapneg (k : Int) (h : -64 < k ∧ k < 0) : IntKind.u64.wrap k = (((18446744073709551616 + k).toNat : Nat) : Int) := by
  simp only [IntKind.wrap, IntKind.bits, IntKind.signed]; simp; omega
theorem low5 (k : Int) (h : -32 < k ∧ k < 0) : bits .and .u64 (IntKind.u64.wrap k) 31 = (((32 + k).toNat : Nat) : Int) := by
  rw [wrapneg k (by omega)]
  have := u64_and_nat (18446744073709551616 + k).toNat 31 (by omega) (by omega)
  rw [nat_mask5] at this
  exact this.trans (by omega)
theorem low6 (k : Int) (h : -64 < k ∧ k < 0) : bits .and .u64 (IntKind.u64.wrap k) 63 = (((64 + k).toNat : Nat) : Int) := by
  rw [wrapneg k (by omega)]
  have := u64_and_nat (18446744073709551616 + k).toNat 63 (by omega) (by omega)
  rw [nat_mask6] at this
  exact this.trans (by omega)
set_option maxHeartbeats 400000 in
theorem rot32_s (x : UInt32) (k : Int) (s t : Nat) (hs : s < 32) (ht : t < 32)
    (h1 : bits .and .u64 (IntKind.u64.wrap k) 31 = (s : Int)) (h2 : IntKind.u64.wrap (32 - (s : Int)) = (t : Int)) (w : World) :
    Calls Try.prog 51 #[.int .u32 (n32 x), .int .i64 k] w fun e w' => e = .returned (.int .u32 (n32 (x <<< UInt32.ofNat s ||| x >>> UInt32.ofNat t))) ∧ w' = w := by
  go_enter Try.func51, Try.ntmps51
  go_wp2
  go_ret
  exact ⟨rfl, rfl⟩
set_option maxHeartbeats 400000 in
theorem rot64_s (x : UInt64) (k : Int) (s t : Nat) (hs : s < 64) (ht : t < 64)
    (h1 : bits .and .u64 (IntKind.u64.wrap k) 63 = (s : Int)) (h2 : IntKind.u64.wrap (64 - (s : Int)) = (t : Int)) (w : World) :
    Calls Try.prog 52 #[.int .u64 (n64 x), .int .i64 k] w fun e w' => e = .returned (.int .u64 (n64 (x <<< UInt64.ofNat s ||| x >>> UInt64.ofNat t))) ∧ w' = w := by
  go_enter Try.func52, Try.ntmps52
  go_wp2
  go_ret
  exact ⟨rfl, rfl⟩
theorem rot32 (x : UInt32) (k : Int) (h : -32 < k ∧ k < 0) (w : World) :
    Calls Try.prog 51 #[.int .u32 (n32 x), .int .i64 k] w fun e w' => e = .returned (.int .u32 (n32 (rotl32 x k))) ∧ w' = w :=
  rot32_s x k _ _ (by omega) (by omega) (low5 k h) ((IntWalk.u64_in _ (by omega)).trans (by omega)) w
theorem rot64 (x : UInt64) (k : Int) (h : -64 < k ∧ k < 0) (w : World) :
    Calls Try.prog 52 #[.int .u64 (n64 x), .int .i64 k] w fun e w' => e = .returned (.int .u64 (n64 (rotl64 x k))) ∧ w' = w :=
  rot64_s x k _ _ (by omega) (by omega) (low6 k h) ((IntWalk.u64_in _ (by omega)).trans (by omega)) w
/-- A callee that leaves every world as it is, met behind draws that the walk has joined. -/
theorem quiet_same {P : Program} {f : FuncId} {args : Array Value} {w : World} {m : Nat} {v : Value} (h : ∀ W : World, Calls P f args W fun e w' => e = .returned v ∧ w' = W) :
    Calls P f args (w.drewN m) fun e w'' => e = .returned v ∧ ∃ m, w'' = w.drewN m :=
  (h _).mono fun _ _ ⟨he, hm⟩ => ⟨he, m, hm⟩
theorem quiet_same2 {P : Program} {f : FuncId} {args : Array Value} {w : World} {m n : Nat} {v : Value} (h : ∀ W : World, Calls P f args W fun e w' => e = .returned v ∧ w' = W) :
    Calls P f args (w.drewN (m + n)) fun e w'' => e = .returned v ∧ ∃ k, w'' = w.drewN (m + k) :=
  (h _).mono fun _ _ ⟨he, hm⟩ => ⟨he, n, hm⟩
end Go.Proofs.Ytpalomkcgfalnaa
