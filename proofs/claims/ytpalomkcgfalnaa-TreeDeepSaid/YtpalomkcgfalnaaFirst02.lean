/- witanlaw02.first: the digests of abc are what they must be. -/
import Derived.Test.YtpalomkcgfalnaaSum256
import Derived.Test.YtpalomkcgfalnaaSum512
import Derived.Lib.SlBytesConst
import Derived.Test.YtpalomkcgfalnaaMore
set_option linter.unusedVariables false
set_option linter.unusedSimpArgs false
namespace Go.Proofs.Ytpalomkcgfalnaa
open Go Go.RowKit Sh
theorem By.build (w : World) (t : TypeId) (fr : Nat × Nat) (l : List UInt8) (hl : l.length ≤ 9223372036854775807) : By (w.alloc (.cells (l.map v8).toArray t fr)) 0 (w.heap.size + 1) (.slice (some ⟨w.heap.size, 0, none⟩) l.length l.length) l :=
  By.mk_ (Nat.le_refl _) (by simpa [maxLen] using hl) (.inr ⟨_, _, rfl, Nat.zero_le _, by omega, fun j u hj => by
    rw [Nat.zero_add, cell_of_row _ w.heap.size j (l.map v8).toArray t fr (heap_alloc_new w _)]
    simpa using hj⟩)
/-- A slice of byte slices that has just been made. -/
theorem Parts.build (w : World) (t : TypeId) (vs : List Value) (ls : List (List UInt8)) (hl : vs.length = ls.length) (hm : ls.length ≤ 9223372036854775807)
    (h : ∀ (i : Nat) (x : Value) (l : List UInt8), vs[i]? = some x → ls[i]? = some l → By w 0 w.heap.size x l) :
    Parts (w.alloc (.cells vs.toArray t)) (w.heap.size + 1) (.slice (some ⟨w.heap.size, 0, none⟩) vs.length vs.length) ls :=
  ⟨vs, ⟨_, _, rfl, Nat.le_refl _, by simp [maxLen]; omega, .inr ⟨_, _, rfl, Nat.zero_le _, by omega, fun j u hj => by rw [Nat.zero_add]; exact (Bk.new w t vs).at_ hj⟩⟩, hl,
    fun i x l hx hl => ((h i x l hx hl).below ((Below.refl _ _).alloc (Nat.le_refl _) _)).more (by omega)⟩
theorem Parts.one (w : World) (t : TypeId) (x : Value) (l : List UInt8) (h : By w 0 w.heap.size x l) : Parts (w.alloc (.cells #[x] t)) (w.heap.size + 1) (.slice (some ⟨w.heap.size, 0, none⟩) 1 1) [l] :=
  Parts.build w t [x] [l] rfl (by simp) fun i y m hy hm => by
    match i, hy, hm with
    | 0, hy, hm => simp at hy hm; subst hy; subst hm; exact h
    | i + 1, hy, hm => simp at hy

set_option maxRecDepth 100000 in
set_option maxHeartbeats 1000000 in
theorem first02 (w : World) : Calls Try.prog 16 #[] w fun e w' => e = .returned (.bool true) ∧ Below w.heap.size w w' := by
  have kc := fun (w : World) (C : Array Value) (n c : Nat) => Lib.run_convert_bytes_const (P := Try.prog) w 22 5 C n c Try.underlying22 Try.underlying5
  go_enter Try.func16, Try.ntmps16
  go_wp2_with fail
  obtain ⟨wa, hwa⟩ : ∃ x, x = (w.alloc (.cells #[.int .u8 97, .int .u8 98, .int .u8 99] 5 (3, 4))).alloc (.cells #[.slice (some ⟨w.heap.size, 0, none⟩) 3 3] 22) := ⟨_, rfl⟩
  rw [← hwa]
  have pa : Parts wa wa.heap.size (.slice (some ⟨w.heap.size + 1, 0, none⟩) 1 1) [[97, 98, 99]] := by
    have b1 : By (w.alloc (.cells #[.int .u8 97, .int .u8 98, .int .u8 99] 5 (3, 4))) 0 (w.heap.size + 1) (.slice (some ⟨w.heap.size, 0, none⟩) 3 3) [97, 98, 99] := By.build w 5 (3, 4) [97, 98, 99] (by simp)
    have p1 := Parts.one (w.alloc (.cells #[.int .u8 97, .int .u8 98, .int .u8 99] 5 (3, 4))) 22 _ _ (by simpa using b1)
    rw [hwa]; simpa using p1
  have Ba : Below w.heap.size w wa := by rw [hwa]; exact ((Below.refl _ _).alloc (Nat.le_refl _) _).alloc (by simp) _
  clear hwa
  refine (sum256_any _ [[97, 98, 99]] wa pa (by simp)).mono ?_
  rintro e w1 ⟨rfl, hb1⟩
  have B1 : Below w.heap.size w w1 := Ba.trans (hb1.mono Ba.size)
  have e32 : A8 (sum32 [[97, 98, 99]].flatten) = A8 (sum32 [97, 98, 99]) := rfl
  rw [e32]
  clear pa Ba hb1 e32
  obtain ⟨H, hH⟩ : ∃ H, H = sum32 [97, 98, 99] := ⟨_, rfl⟩
  rw [← hH]
  have h0 : g8 H 0 = 186 := by rw [hH, abc32]; rfl
  have h1 : g8 H 1 = 120 := by rw [hH, abc32]; rfl
  have h31 : g8 H 31 = 173 := by rw [hH, abc32]; rfl
  have hl : H.length = 32 := by rw [hH]; exact length_sum32 _
  clear hH
  go_wp2_with fail
  obtain ⟨wa, hwa⟩ : ∃ x, x = (w1.alloc (.cells #[.int .u8 97, .int .u8 98, .int .u8 99] 5 (3, 4))).alloc (.cells #[.slice (some ⟨w1.heap.size, 0, none⟩) 3 3] 22) := ⟨_, rfl⟩
  rw [← hwa]
  have pa : Parts wa wa.heap.size (.slice (some ⟨w1.heap.size + 1, 0, none⟩) 1 1) [[97, 98, 99]] := by
    have b1 : By (w1.alloc (.cells #[.int .u8 97, .int .u8 98, .int .u8 99] 5 (3, 4))) 0 (w1.heap.size + 1) (.slice (some ⟨w1.heap.size, 0, none⟩) 3 3) [97, 98, 99] := By.build w1 5 (3, 4) [97, 98, 99] (by simp)
    have p1 := Parts.one (w1.alloc (.cells #[.int .u8 97, .int .u8 98, .int .u8 99] 5 (3, 4))) 22 _ _ (by simpa using b1)
    rw [hwa]; simpa using p1
  have Ba : Below w.heap.size w wa := by rw [hwa]; exact (B1.alloc B1.size _).alloc (by simp; have := B1.size; omega) _
  clear hwa
  refine (sum512_any _ [[97, 98, 99]] wa pa (by simp)).mono ?_
  rintro e w2 ⟨rfl, hb2⟩
  have B2 : Below w.heap.size w w2 := Ba.trans (hb2.mono Ba.size)
  have e64 : A8 (sum64 [[97, 98, 99]].flatten) = A8 (sum64 [97, 98, 99]) := rfl
  rw [e64]
  clear pa Ba hb2 e64 B1
  obtain ⟨G, hG⟩ : ∃ G, G = sum64 [97, 98, 99] := ⟨_, rfl⟩
  rw [← hG]
  have g0 : g8 G 0 = 221 := by rw [hG]; decide +kernel
  have g1 : g8 G 1 = 175 := by rw [hG]; decide +kernel
  have g63 : g8 G 63 = 159 := by rw [hG]; decide +kernel
  have gl : G.length = 64 := by rw [hG]; exact length_sum64 _
  clear hG
  have hA : Bk (putAt (putAt ((w2.alloc (Obj.cells (c8 (z8 32)).toArray 25)).alloc (Obj.cells (c8 (z8 64)).toArray 27)) ⟨w2.heap.size, 0, none⟩ (c8 H)) ⟨w2.heap.size + 1, 0, none⟩ (c8 G)) w2.heap.size 25 (c8 H) := (((Bk.new w2 _ _).alloc _).puts (by simp [hl])).putFar (by simp) _
  have hB : Bk (putAt (putAt ((w2.alloc (Obj.cells (c8 (z8 32)).toArray 25)).alloc (Obj.cells (c8 (z8 64)).toArray 27)) ⟨w2.heap.size, 0, none⟩ (c8 H)) ⟨w2.heap.size + 1, 0, none⟩ (c8 G)) (w2.heap.size + 1) 27 (c8 G) := by
    have := (Bk.new (w2.alloc (Obj.cells (c8 (z8 32)).toArray 25)) 27 (c8 (z8 64))).putFar (p := ⟨w2.heap.size, 0, none⟩) (by simp) (c8 H)
    exact Bk.puts (by simpa using this) (by simp [gl])
  have e0 : (putAt (putAt ((w2.alloc (Obj.cells (c8 (z8 32)).toArray 25)).alloc (Obj.cells (c8 (z8 64)).toArray 27)) ⟨w2.heap.size, 0, none⟩ (c8 H)) ⟨w2.heap.size + 1, 0, none⟩ (c8 G)).cell? ⟨w2.heap.size, 0, none⟩ = some (.int .u8 186) := hA.at_ (by rw [c8_at (by omega), h0]; rfl)
  have e1 : (putAt (putAt ((w2.alloc (Obj.cells (c8 (z8 32)).toArray 25)).alloc (Obj.cells (c8 (z8 64)).toArray 27)) ⟨w2.heap.size, 0, none⟩ (c8 H)) ⟨w2.heap.size + 1, 0, none⟩ (c8 G)).cell? ⟨w2.heap.size, 1, none⟩ = some (.int .u8 120) := hA.at_ (by rw [c8_at (by omega), h1]; rfl)
  have e31 : (putAt (putAt ((w2.alloc (Obj.cells (c8 (z8 32)).toArray 25)).alloc (Obj.cells (c8 (z8 64)).toArray 27)) ⟨w2.heap.size, 0, none⟩ (c8 H)) ⟨w2.heap.size + 1, 0, none⟩ (c8 G)).cell? ⟨w2.heap.size, 31, none⟩ = some (.int .u8 173) := hA.at_ (by rw [c8_at (by omega), h31]; rfl)
  have f0 : (putAt (putAt ((w2.alloc (Obj.cells (c8 (z8 32)).toArray 25)).alloc (Obj.cells (c8 (z8 64)).toArray 27)) ⟨w2.heap.size, 0, none⟩ (c8 H)) ⟨w2.heap.size + 1, 0, none⟩ (c8 G)).cell? ⟨w2.heap.size + 1, 0, none⟩ = some (.int .u8 221) := hB.at_ (by rw [c8_at (by omega), g0]; rfl)
  have f1 : (putAt (putAt ((w2.alloc (Obj.cells (c8 (z8 32)).toArray 25)).alloc (Obj.cells (c8 (z8 64)).toArray 27)) ⟨w2.heap.size, 0, none⟩ (c8 H)) ⟨w2.heap.size + 1, 0, none⟩ (c8 G)).cell? ⟨w2.heap.size + 1, 1, none⟩ = some (.int .u8 175) := hB.at_ (by rw [c8_at (by omega), g1]; rfl)
  have f63 : (putAt (putAt ((w2.alloc (Obj.cells (c8 (z8 32)).toArray 25)).alloc (Obj.cells (c8 (z8 64)).toArray 27)) ⟨w2.heap.size, 0, none⟩ (c8 H)) ⟨w2.heap.size + 1, 0, none⟩ (c8 G)).cell? ⟨w2.heap.size + 1, 63, none⟩ = some (.int .u8 159) := hB.at_ (by rw [c8_at (by omega), g63]; rfl)
  clear hA hB h0 h1 h31 g0 g1 g63
  go_wp2_with fail
  go_ret
  exact ⟨rfl, below_putAt (below_putAt ((B2.alloc B2.size _).alloc (by simp; have := B2.size; omega) _) (by exact B2.size) _) (by simp; have := B2.size; omega) _⟩
end Go.Proofs.Ytpalomkcgfalnaa
