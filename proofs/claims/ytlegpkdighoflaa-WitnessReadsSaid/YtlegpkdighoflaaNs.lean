/- witanref10: the list of nodes as it grows and changes. -/
import Derived.Test.YtlegpkdighoflaaNd
set_option linter.unusedVariables false
set_option linter.unusedSimpArgs false
namespace Go.Proofs.Ytlegpkdighoflaa
open Go Go.RowKit Sh
/-- The slice v is the call's own and holds these nodes. -/
def NS (w : World) (base : Nat) (v : Value) (nds : List NV) : Prop := (∀ x ∈ nds, x.Ok) ∧ w.ownsRow base 67 67 v nds.length (nflat nds)
theorem NS.nil (w : World) (base : Nat) : NS w base (.slice none 0 0) [] := ⟨by simp, World.ownsRow_nil w base _ _⟩
theorem NS.form {w : World} {base : Nat} {v : Value} {nds : List NV} (h : NS w base v nds) : ∃ A c, v = .slice A nds.length c ∧ nds.length ≤ c ∧ c ≤ 9223372036854775807 := ownsRow_form h.2
theorem NS.below {w w' : World} {base B : Nat} {v : Value} {nds : List NV} (h : NS w base v nds) (hb : Below B w w') (hB : w.heap.size ≤ B) : NS w' base v nds := ⟨h.1, ownsRow_below h.2 hb hB⟩
theorem NS.kept {w w' : World} {base : Nat} {v : Value} {nds : List NV} {row : Option Nat} (h : NS w base v nds) (hg : w.grownBy w' row) (hne : v.ownBlock = none ∨ v.ownBlock ≠ row) : NS w' base v nds := ⟨h.1, World.ownsRow.kept h.2 hg hne⟩
/-- Its block, and how it is again such a slice when the block's cells have changed. -/
theorem NS.block {w : World} {base : Nat} {v : Value} {nds : List NV} (h : NS w base v nds) (hp : 0 < nds.length) : ∃ gn c tl, v = .slice (some ⟨gn, 0, none⟩) nds.length c ∧ base ≤ gn ∧ ND w gn nds tl ∧ nds.length ≤ c ∧
    ∀ (W : World) (nds' : List NV), (∀ x ∈ nds', x.Ok) → nds'.length = nds.length → Bk W gn 67 (nflat nds' ++ tl) → NS W base v nds' := by
  obtain ⟨h0, h1, h2⟩ := h
  rcases h2 with ⟨_, hn⟩ | ⟨g, cap, cur, rfl, hbg, hh, hr, hm, hsz, ht⟩
  · omega
  · have hl := length_nflat h0
    have e : nflat nds ++ cur.toList.drop (nds.length * 67) = cur.toList := by rw [← ht, List.take_append_drop]
    refine ⟨g, cap, cur.toList.drop (nds.length * 67), rfl, hbg, ⟨h0, by rw [e]; exact hh⟩, hr, fun W nds' h0' hl' hB => ⟨h0', ?_⟩⟩
    have hl2 := length_nflat h0'
    refine ⟨hl2, .inr ⟨g, cap, (nflat nds' ++ cur.toList.drop (nds.length * 67)).toArray, by rw [hl'], hbg, hB, by rw [hl']; exact hr, hm, ?_, ?_⟩⟩
    · simp only [List.size_toArray, List.length_append, List.length_drop, Array.length_toList, hl2, hl', hsz]
      have : nds.length * 67 ≤ cap * 67 := Nat.mul_le_mul_right _ hr
      omega
    · simp only []
      rw [← hl2, List.take_left]
/-- A node's cells are changed from place j on. -/
theorem nflat_part {l : List NV} (h : ∀ x ∈ l, x.Ok) {i : Nat} {x y : NV} (hx : l[i]? = some x) (hy : y.Ok) {j : Nat} {vs tl : List Value} (hj : j + vs.length ≤ 67) (e : y.cells = x.cells.take j ++ vs ++ x.cells.drop (j + vs.length)) :
    (nflat l ++ tl).take (i * 67 + j) ++ vs ++ (nflat l ++ tl).drop (i * 67 + j + vs.length) = nflat (l.set i y) ++ tl := by
  have hi := (List.getElem?_eq_some_iff.1 hx).1
  have hl := length_nflat h
  have hxl := NV.len (h x (List.mem_of_getElem? hx))
  have hat := nflat_at h hx
  have hset := nflat_set h y hy hi
  have hsplit : nflat l = (nflat l).take (i * 67) ++ (x.cells ++ (nflat l).drop (i * 67 + 67)) := by
    have h1 : nflat l = (nflat l).take (i * 67) ++ (nflat l).drop (i * 67) := (List.take_append_drop _ _).symm
    have h2 : (nflat l).drop (i * 67) = ((nflat l).drop (i * 67)).take 67 ++ ((nflat l).drop (i * 67)).drop 67 := (List.take_append_drop _ _).symm
    rw [hat, List.drop_drop] at h2
    rw [← h2]
    exact h1
  have hpl : ((nflat l).take (i * 67)).length = i * 67 := by simp [hl]; omega
  generalize (nflat l).take (i * 67) = p at *
  generalize (nflat l).drop (i * 67 + 67) = s at *
  rw [hsplit, ← hset, e]
  rw [← hpl]
  simp only [List.append_assoc, List.take_length_add_append, Nat.add_assoc, List.drop_length_add_append]
  rw [List.take_append_of_le_length (by omega), List.drop_append_of_le_length (by omega)]
theorem NV.part_kind (x : NV) (k : Int) : ({ x with kind := k } : NV).cells = x.cells.take 0 ++ [.int .i64 k] ++ x.cells.drop (0 + [Value.int .i64 k].length) := by simp [NV.cells]
theorem NV.part_key {x : NV} (h : x.Ok) {k : List UInt8} (hk : k.length = 32) : ({ x with k := k } : NV).cells = x.cells.take 1 ++ c8 k ++ x.cells.drop (1 + (c8 k).length) := by
  have h1 : (c8 x.k).length = 32 := by simp [h.1]
  simp only [NV.cells, length_c8, hk]
  rw [show 1 + 32 = 32 + 1 from rfl, List.drop_succ_cons, List.drop_left' h1]
  simp
theorem NV.part_value {x : NV} (h : x.Ok) {k : List UInt8} (hk : k.length = 32) : ({ x with v := k } : NV).cells = x.cells.take 33 ++ c8 k ++ x.cells.drop (33 + (c8 k).length) := by
  have h1 : (c8 x.k).length = 32 := by simp [h.1]
  have h2 : (c8 x.v).length = 32 := by simp [h.2]
  simp only [NV.cells, length_c8, hk]
  rw [show 33 + 32 = (32 + 32) + 1 from rfl, List.drop_succ_cons, ← List.drop_drop, List.drop_left' h1, List.drop_left' h2, show (33 : Nat) = 32 + 1 from rfl, List.take_succ_cons, List.take_left' h1]
  simp
theorem NV.part_left {x : NV} (h : x.Ok) (a : Int) : ({ x with l := a } : NV).cells = x.cells.take 65 ++ [.int .i64 a] ++ x.cells.drop (65 + [Value.int .i64 a].length) := by
  have h1 : (c8 x.k).length = 32 := by simp [h.1]
  have h2 : (c8 x.v).length = 32 := by simp [h.2]
  simp only [NV.cells, List.length_cons, List.length_nil]
  rw [show 65 + (0 + 1) = (32 + (32 + 1)) + 1 from rfl, List.drop_succ_cons, show (65 : Nat) = (32 + 32) + 1 from rfl, List.take_succ_cons]
  rw [List.take_add, List.take_left' h1, List.drop_left' h1, List.take_left' h2, ← List.drop_drop, List.drop_left' h1]
  have e : (c8 x.v ++ [Value.int .i64 x.l, .int .i64 x.r]).drop (32 + 1) = [.int .i64 x.r] := by rw [← List.drop_drop, List.drop_left' h2]; rfl
  rw [e]
  simp
theorem NV.part_right {x : NV} (h : x.Ok) (a : Int) : ({ x with r := a } : NV).cells = x.cells.take 66 ++ [.int .i64 a] ++ x.cells.drop (66 + [Value.int .i64 a].length) := by
  have h1 : (c8 x.k).length = 32 := by simp [h.1]
  have h2 : (c8 x.v).length = 32 := by simp [h.2]
  have e1 : (c8 x.k ++ (c8 x.v ++ [Value.int .i64 x.l, .int .i64 x.r])).take (32 + (32 + 1)) = c8 x.k ++ (c8 x.v ++ [.int .i64 x.l]) := by
    rw [List.take_add, List.take_left' h1, List.drop_left' h1, List.take_add, List.take_left' h2, List.drop_left' h2]
    rfl
  have e2 : (c8 x.k ++ (c8 x.v ++ [Value.int .i64 x.l, .int .i64 x.r])).drop (32 + (32 + 2)) = [] := List.drop_of_length_le (by simp [h.1, h.2])
  simp only [NV.cells, List.length_cons, List.length_nil]
  rw [show 66 + (0 + 1) = (32 + (32 + 2)) + 1 from rfl, List.drop_succ_cons, show (66 : Nat) = (32 + (32 + 1)) + 1 from rfl, List.take_succ_cons, e1, e2]
  simp
/-- One cell of a node is set. -/
theorem ND.setc {w : World} {g : Nat} {l : List NV} {tl : List Value} (h : ND w g l tl) {i : Nat} {x y : NV} (hx : l[i]? = some x) (hy : y.Ok) {j : Nat} {u : Value} (hj : j < 67) (e : y.cells = x.cells.take j ++ [u] ++ x.cells.drop (j + [u].length)) : Bk (w.setCell ⟨g, i * 67 + j, none⟩ u) g 67 (nflat (l.set i y) ++ tl) := by
  have hi := (List.getElem?_eq_some_iff.1 hx).1
  have hl := length_nflat h.1
  have h1 := h.2.put (o := i * 67 + j) (vs := [u]) (by simp [hl]; omega)
  rw [nflat_part h.1 hx hy (vs := [u]) (by simp; omega) e] at h1
  exact h1
/-- Cells of a node are put. -/
theorem ND.putc {w : World} {g : Nat} {l : List NV} {tl : List Value} (h : ND w g l tl) {i : Nat} {x y : NV} (hx : l[i]? = some x) (hy : y.Ok) {j : Nat} {vs : List Value} (hj : j + vs.length ≤ 67) (e : y.cells = x.cells.take j ++ vs ++ x.cells.drop (j + vs.length)) : Bk (putAt w ⟨g, i * 67 + j, none⟩ vs) g 67 (nflat (l.set i y) ++ tl) := by
  have hi := (List.getElem?_eq_some_iff.1 hx).1
  have hl := length_nflat h.1
  have h1 := h.2.put (o := i * 67 + j) (vs := vs) (by simp [hl]; omega)
  rw [nflat_part h.1 hx hy hj e] at h1
  exact h1
end Go.Proofs.Ytlegpkdighoflaa
