/- A slice of eight words that is only read; the output's bytes from the left. -/
import Derived.Test.YtpalomkcgfalnaaRefD
set_option linter.unusedVariables false
set_option linter.unusedSimpArgs false
namespace Go.Proofs.Ytpalomkcgfalnaa
open Go Go.RowKit Sh
/-- The slice value v reads as these eight words, in a block from lo on. -/
def V8 (w : World) (lo : Nat) (v : Value) (V : List UInt64) : Prop := ∃ c g o, v = .slice (some ⟨g, o, none⟩) 8 c ∧ 8 ≤ c ∧ c ≤ 9223372036854775807 ∧ lo ≤ g ∧ g < w.heap.size ∧ ∀ j, j < 8 → w.cell? ⟨g, o + j, none⟩ = some (.int .u64 (n64 (g64 V j)))
section
variable {w w' : World} {lo : Nat} {v : Value} {V : List UInt64}
theorem V8.of_sl (h : Sl w lo w.heap.size v (c64 V)) (hV : V.length = 8) : V8 w lo v V := by
  obtain ⟨A, c, h1, h2, h3, h4⟩ := h
  have hl : (c64 V).length = 8 := by simp [c64, hV]
  rw [hl] at h1 h2
  obtain ⟨g, o, rfl, hlo, hg, hc⟩ := h4.some (by omega)
  exact ⟨c, g, o, h1, h2, by unfold maxLen at h3; exact h3, hlo, hg, fun j hj => hc j _ (c64_at (by omega))⟩
theorem V8.below (h : V8 w lo v V) (hb : Below w.heap.size w w') : V8 w' lo v V := by
  obtain ⟨c, g, o, h1, h2, h3, h4, h5, h6⟩ := h
  exact ⟨c, g, o, h1, h2, h3, h4, by have := hb.size; omega, fun j hj => (hb.cell h5).trans (h6 j hj)⟩
theorem V8.drewN (h : V8 w lo v V) (n : Nat) : V8 (w.drewN n) lo v V := h
theorem V8.less {lo' : Nat} (h : V8 w lo v V) (hl : lo' ≤ lo) : V8 w lo' v V := by
  obtain ⟨c, g, o, h1, h2, h3, h4, h5, h6⟩ := h
  exact ⟨c, g, o, h1, h2, h3, by omega, h5, h6⟩
theorem V8.far (h : V8 w lo v V) {p : Addr} (hp : p.block < lo) (u : Value) : V8 (w.setCell p u) lo v V := by
  obtain ⟨c, g, o, h1, h2, h3, h4, h5, h6⟩ := h
  exact ⟨c, g, o, h1, h2, h3, h4, by simpa using h5, fun j hj => (World.cell?_of_block (Below.heap_setCell w p u g (by omega))).trans (h6 j hj)⟩
theorem V8.new (W : World) (V : List UInt64) (hV : V.length = 8) : V8 (W.alloc (.cells (c64 V).toArray 96)) W.heap.size (.slice (some ⟨W.heap.size, 0, none⟩) 8 8) V :=
  ⟨8, W.heap.size, 0, rfl, Nat.le_refl _, by omega, Nat.le_refl _, by simp, fun j hj => (Bk.new W 96 (c64 V)).at_ (by rw [Nat.zero_add]; exact c64_at (by omega))⟩
end
theorem out32_more (S : List UInt32) (k j : Nat) (hk : k < S.length) (hj : j < 4) (x : UInt8) (hx : (bytes32 (g32 S k))[j]? = some x) : (out32 S).take (4 * k + j) ++ [x] = (out32 S).take (4 * k + (j + 1)) := by
  rw [show 4 * k + (j + 1) = (4 * k + j) + 1 by omega, List.take_add_one, out32_at S k j hk hj, hx]
  rfl
theorem out64_more (S : List UInt64) (k j : Nat) (hk : k < S.length) (hj : j < 8) (x : UInt8) (hx : (bytes64 (g64 S k))[j]? = some x) : (out64 S).take (8 * k + j) ++ [x] = (out64 S).take (8 * k + (j + 1)) := by
  rw [show 8 * k + (j + 1) = (8 * k + j) + 1 by omega, List.take_add_one, out64_at S k j hk hj, hx]
  rfl
theorem low_byte (x : UInt32) (s : Nat) (hs : s < 32) : (x.toUInt64 >>> UInt64.ofNat s).toUInt8 = (x >>> UInt32.ofNat s).toUInt8 := by
  rw [up_shr x s hs]
  generalize x >>> UInt32.ofNat s = y
  simp
def sh8 (x : UInt64) (s : Nat) : UInt64 := x >>> UInt64.ofNat (8 * s)
@[go_sem ↓ high] theorem shr64_mul8 (x : UInt64) (k : IntKind) (s : Nat) (hs : s < 8) : Op.shift .shr .u64 (n64 x) k (8 * (s : Int)) = pure (.int .u64 (n64 (sh8 x s))) := by
  have e : (8 : Int) * (s : Int) = ((8 * s : Nat) : Int) := by omega
  rw [e]
  exact shrA64 x k (8 * s) (by omega)
theorem byte32_at (x : UInt32) (s : Nat) (hs : s < 4) : (bytes32 x)[3 - s]? = some (sh8 x.toUInt64 s).toUInt8 := by
  unfold sh8
  rw [low_byte x (8 * s) (by omega)]
  have h : s = 0 ∨ s = 1 ∨ s = 2 ∨ s = 3 := by omega
  rcases h with rfl | rfl | rfl | rfl
  · show some x.toUInt8 = some (x >>> 0).toUInt8
    simp
  · rfl
  · rfl
  · rfl
theorem byte64_at (x : UInt64) (s : Nat) (hs : s < 8) : (bytes64 x)[7 - s]? = some (sh8 x s).toUInt8 := by
  unfold sh8
  have h : s = 0 ∨ s = 1 ∨ s = 2 ∨ s = 3 ∨ s = 4 ∨ s = 5 ∨ s = 6 ∨ s = 7 := by omega
  rcases h with rfl | rfl | rfl | rfl | rfl | rfl | rfl | rfl
  · show some x.toUInt8 = some (x >>> 0).toUInt8
    simp
  · rfl
  · rfl
  · rfl
  · rfl
  · rfl
  · rfl
  · rfl
theorem up_join (A B : List UInt64) (k : Nat) (hk : k < A.length) : g64 (A.take k ++ B.drop k) k = g64 B k := g64_join A B k hk
end Go.Proofs.Ytpalomkcgfalnaa
