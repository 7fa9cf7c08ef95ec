/- A key's bits: the tree's and the reference's. -/
import Derived.Test.YtpalomkcgfalnaaTreeA
set_option linter.unusedVariables false
set_option linter.unusedSimpArgs false
namespace Go.Proofs.Ytpalomkcgfalnaa
open Go Go.RowKit Sh
/-- The bit of number n, from the highest one of the first byte on. -/
def kbit (k : List UInt8) (n : Nat) : Bool := (g8 k (n / 8) >>> UInt8.ofNat (7 - n % 8)) &&& 1 == 1
theorem low_bit (y : UInt8) : (bits .and .u8 (n8 y) 1 == 1) = (y &&& 1 == 1) := by
  have h : bits .and .u8 (n8 y) 1 = n8 (y &&& 1) := by
    have h := u8_and_nat y.toNat 1 (lt8 y) (by decide)
    unfold n8
    rw [UInt8.toNat_and]
    exact h
  rw [h]
  exact n8_beq (y &&& 1) 1
set_option maxHeartbeats 1000000 in
theorem treebit_any (k : List UInt8) (n : Nat) (hk : k.length = 32) (hn : n < 256) (w : World) :
    Calls Try.prog 61 #[A8 k, .int .i64 (n : Int)] w fun e w' => e = .returned (.bool (kbit k n)) ∧ Below w.heap.size w w' := by
  have hc : (w.alloc (.cells (c8 k).toArray 25)).cell? ⟨w.heap.size, n / 8, none⟩ = some (.int .u8 (n8 (g8 k (n / 8)))) := (Bk.new w _ _).at_ (c8_at (by omega))
  have hb : Hid (kbit k n = ((g8 k (n / 8) >>> UInt8.ofNat (7 - n % 8)) &&& 1 == 1)) := Lib.hid rfl
  generalize g8 k (n / 8) = x at *
  have h1 : (n : Int) / 8 = ((n / 8 : Nat) : Int) := by omega
  have hq : n / 8 < 32 := by omega
  have h2 : (n : Int) % 8 = ((n % 8 : Nat) : Int) := by omega
  have hr : n % 8 < 8 := by omega
  generalize hnq : n / 8 = q at *
  generalize hnr : n % 8 = r at *
  clear hnq hnr
  have hr8 : r = 0 ∨ r = 1 ∨ r = 2 ∨ r = 3 ∨ r = 4 ∨ r = 5 ∨ r = 6 ∨ r = 7 := by omega
  rcases hr8 with rfl | rfl | rfl | rfl | rfl | rfl | rfl | rfl
  all_goals
    go_enter Try.func61, Try.ntmps61
    go_wp2
    go_ret
    refine ⟨?_, (Below.refl _ _).alloc (Nat.le_refl _) _⟩
    rw [hb.out]
    exact congrArg (fun b => Ending.returned (.bool b)) (low_bit _)
end Go.Proofs.Ytpalomkcgfalnaa
