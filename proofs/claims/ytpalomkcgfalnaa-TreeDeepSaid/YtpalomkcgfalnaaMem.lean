/- Words for memory: a block known whole, a slice that reads as a list of cells (nil let in), bytes; what keeps them. No condition. -/
import Derived.WalkKit
import Derived.Deep.Draws
import Derived.Test.YtpalomkcgfalnaaUints
import Derived.Test.YtpalomkcgfalnaaSha
set_option linter.unusedVariables false
set_option linter.unusedSimpArgs false
namespace Go.Proofs.Ytpalomkcgfalnaa
open Go Go.RowKit

/-- Values of bytes and words. -/
def v8 (x : UInt8) : Value := .int .u8 (n8 x)
def v32 (x : UInt32) : Value := .int .u32 (n32 x)
def v64 (x : UInt64) : Value := .int .u64 (n64 x)

theorem addr_block (a : Addr) (n : Nat) : (a.add n).block = a.block := by unfold Addr.add; split <;> rfl
theorem addr_add (a : Addr) (i j : Nat) : (a.add i).add j = a.add (i + j) := by
  unfold Addr.add
  by_cases hi : i = 0 <;> by_cases hj : j = 0 <;> simp [hi, hj, Nat.add_assoc]
theorem addr_lit (g o n : Nat) : (⟨g, o, none⟩ : Addr).add n = ⟨g, o + n, none⟩ := by unfold Addr.add; split <;> simp_all

/-- Block g is just these cells, of type t, none of them frozen. -/
def Bk (w : World) (g : Nat) (t : TypeId) (cs : List Value) : Prop := w.heap[g]? = some (.cells cs.toArray t (0, 0))

section
variable {w w' : World} {g : Nat} {t : TypeId} {cs : List Value}
theorem Bk.lt (h : Bk w g t cs) : g < w.heap.size := by
  rcases Nat.lt_or_ge g w.heap.size with hlt | hge
  · exact hlt
  · unfold Bk at h; rw [Array.getElem?_eq_none hge] at h; cases h
theorem Bk.cell (h : Bk w g t cs) (i : Nat) : w.cell? ⟨g, i, none⟩ = cs[i]? := by
  rw [cell_of_row w g i _ t (0, 0) h]; simp
theorem Bk.at_ (h : Bk w g t cs) {i : Nat} {u : Value} (hi : cs[i]? = some u) : w.cell? ⟨g, i, none⟩ = some u := by rw [h.cell, hi]
theorem Bk.frozen (h : Bk w g t cs) (i : Nat) : w.frozen? ⟨g, i, none⟩ = false := by
  unfold Bk at h
  simp [World.frozen?, h]
theorem Bk.new (w : World) (t : TypeId) (cs : List Value) : Bk (w.alloc (.cells cs.toArray t)) w.heap.size t cs := heap_alloc_new w _
theorem Bk.drew (h : Bk w g t cs) : Bk w.drew g t cs := h
theorem Bk.drewN (h : Bk w g t cs) (n : Nat) : Bk (w.drewN n) g t cs := h
theorem Bk.alloc (h : Bk w g t cs) (o : Obj) : Bk (w.alloc o) g t cs := (Below.heap_alloc w o g h.lt).trans h
theorem Bk.set_ (h : Bk w g t cs) (i : Nat) (u : Value) : Bk (w.setCell ⟨g, i, none⟩ u) g t (cs.set i u) := by
  unfold Bk at h ⊢
  simp [World.setCell, Array.getElem?_modify, h]
theorem Bk.far (h : Bk w g t cs) {p : Addr} (hp : g ≠ p.block) (u : Value) : Bk (w.setCell p u) g t cs := (Below.heap_setCell w p u g hp).trans h
theorem Bk.below {B : Nat} (h : Bk w g t cs) (hb : Below B w w') (hg : g < B) : Bk w' g t cs := (hb.block g hg).trans h
theorem Bk.grown {row : Option Nat} (h : Bk w g t cs) (hb : w.grownBy w' row) (hg : some g ≠ row) : Bk w' g t cs := (hb.block g h.lt hg).trans h
end

theorem below_drewN {B : Nat} {a w : World} (h : Below B a w) (n : Nat) : Below B a (w.drewN n) := ⟨h.os, h.tape, h.output, h.size, h.block⟩

/-- The blocks from lo to hi are as they were. -/
def Mid (lo hi : Nat) (w w' : World) : Prop := ∀ k, lo ≤ k → k < hi → w'.heap[k]? = w.heap[k]?
section
variable {lo hi : Nat} {a w w' : World}
theorem Mid.refl (lo hi : Nat) (w : World) : Mid lo hi w w := fun _ _ _ => rfl
theorem Mid.trans (h : Mid lo hi a w) (h' : Mid lo hi w w') : Mid lo hi a w' := fun k h1 h2 => (h' k h1 h2).trans (h k h1 h2)
theorem Mid.below {B : Nat} (h : Below B w w') (hB : hi ≤ B) : Mid lo hi w w' := fun k _ h2 => h.block k (by omega)
theorem Mid.drewN (h : Mid lo hi a w) (n : Nat) : Mid lo hi a (w.drewN n) := h
theorem Mid.drew (h : Mid lo hi a w) : Mid lo hi a w.drew := h
theorem Mid.alloc (h : Mid lo hi a w) (hs : hi ≤ w.heap.size) (o : Obj) : Mid lo hi a (w.alloc o) := fun k h1 h2 => (Below.heap_alloc w o k (by omega)).trans (h k h1 h2)
theorem Mid.setCell (h : Mid lo hi a w) {p : Addr} (hp : p.block < lo ∨ hi ≤ p.block) (u : Value) : Mid lo hi a (w.setCell p u) := fun k h1 h2 => (Below.heap_setCell w p u k (by omega)).trans (h k h1 h2)
theorem Mid.cell (h : Mid lo hi w w') {p : Addr} (h1 : lo ≤ p.block) (h2 : p.block < hi) : w'.cell? p = w.cell? p := World.cell?_of_block (h _ h1 h2)
end

/-- The address A holds these cells, in a block from lo to B (nil will do where there are none). -/
def Rd (w : World) (lo B : Nat) (A : Option Addr) (cs : List Value) : Prop :=
  cs = [] ∨ ∃ g o, A = some ⟨g, o, none⟩ ∧ lo ≤ g ∧ g < B ∧ ∀ j u, cs[j]? = some u → w.cell? ⟨g, o + j, none⟩ = some u

section
variable {w w' : World} {lo lo' B B' : Nat} {A : Option Addr} {cs : List Value}
theorem Rd.nil (w : World) (lo B : Nat) (A : Option Addr) : Rd w lo B A [] := .inl rfl
theorem Rd.keep (h : Rd w lo B A cs) (hk : ∀ p : Addr, lo ≤ p.block → p.block < B → w'.cell? p = w.cell? p) : Rd w' lo B A cs := by
  rcases h with h | ⟨g, o, e, hl, hb, hc⟩
  · exact .inl h
  · exact .inr ⟨g, o, e, hl, hb, fun j u hu => (hk _ hl hb).trans (hc j u hu)⟩
theorem Rd.more (h : Rd w lo B A cs) (hB : B ≤ B') : Rd w lo B' A cs := by
  rcases h with h | ⟨g, o, e, hl, hb, hc⟩
  · exact .inl h
  · exact .inr ⟨g, o, e, hl, by omega, hc⟩
theorem Rd.less (h : Rd w lo B A cs) (hl' : lo' ≤ lo) : Rd w lo' B A cs := by
  rcases h with h | ⟨g, o, e, hl, hb, hc⟩
  · exact .inl h
  · exact .inr ⟨g, o, e, by omega, hb, hc⟩
theorem Rd.below (h : Rd w lo B A cs) (hb : Below B w w') : Rd w' lo B A cs := h.keep fun _ _ hp => hb.cell hp
theorem Rd.mid (h : Rd w lo B A cs) (hb : Mid lo B w w') : Rd w' lo B A cs := h.keep fun _ hl hp => hb.cell hl hp
theorem Rd.some (h : Rd w lo B A cs) (hn : 0 < cs.length) : ∃ g o, A = some ⟨g, o, none⟩ ∧ lo ≤ g ∧ g < B ∧ ∀ j u, cs[j]? = some u → w.cell? ⟨g, o + j, none⟩ = some u := by
  rcases h with h | h
  · rw [h] at hn; cases hn
  · exact h
/-- A cut from k on, as the model has it: at k = cap the address stays. -/
theorem Rd.cut (h : Rd w lo B A cs) {k cap : Nat} (hc : cs.length ≤ cap) :
    Rd w lo B (if cap = k then A else A.map (·.add k)) (cs.drop k) := by
  rcases Nat.lt_or_ge k cs.length with hlt | hge
  · obtain ⟨g, o, rfl, hl, hb, hcell⟩ := h.some (by omega)
    rw [if_neg (by omega)]
    refine .inr ⟨g, o + k, by simp [addr_lit], hl, hb, fun j u hu => ?_⟩
    rw [List.getElem?_drop] at hu
    rw [Nat.add_assoc]
    exact hcell _ u hu
  · exact .inl (List.drop_eq_nil_of_le hge)
theorem Rd.take (h : Rd w lo B A cs) (k : Nat) : Rd w lo B A (cs.take k) := by
  rcases h with h | ⟨g, o, e, hl, hb, hc⟩
  · subst h; exact .inl (by simp)
  · refine .inr ⟨g, o, e, hl, hb, fun j u hu => hc j u ?_⟩
    rw [List.getElem?_take] at hu
    split at hu
    · exact hu
    · cases hu
theorem Rd.of_own {base : Nat} {e : TypeId} {n c : Nat} (h : w.ownsRow base e 1 (.slice A n c) n cs) : Rd w base w.heap.size A cs := by
  rcases h.2 with ⟨hv, hn⟩ | ⟨g, cap, cur, hv, hbg, hh, _⟩
  · exact .inl (List.eq_nil_of_length_eq_zero (by rw [h.1, hn, Nat.zero_mul]))
  · have hA : A = Option.some ⟨g, 0, none⟩ := by injection hv
    subst hA
    refine .inr ⟨g, 0, rfl, hbg, (Array.getElem?_eq_some_iff.1 hh).1, fun j u hu => ?_⟩
    have := h.cells (g := g) rfl j u hu
    rwa [addr_lit] at this
end

/-- The slice value v reads as these cells (one cell an element), in a block from lo to B. -/
def Sl (w : World) (lo B : Nat) (v : Value) (cs : List Value) : Prop := ∃ A c, v = .slice A cs.length c ∧ cs.length ≤ c ∧ c ≤ maxLen ∧ Rd w lo B A cs
/-- .. as these bytes. -/
def By (w : World) (lo B : Nat) (v : Value) (l : List UInt8) : Prop := Sl w lo B v (l.map v8)

section
variable {w w' : World} {lo lo' B B' : Nat} {v : Value} {cs : List Value} {l : List UInt8}
theorem Sl.below (h : Sl w lo B v cs) (hb : Below B w w') : Sl w' lo B v cs := let ⟨A, c, h1, h2, h3, h4⟩ := h; ⟨A, c, h1, h2, h3, h4.below hb⟩
theorem Sl.mid (h : Sl w lo B v cs) (hb : Mid lo B w w') : Sl w' lo B v cs := let ⟨A, c, h1, h2, h3, h4⟩ := h; ⟨A, c, h1, h2, h3, h4.mid hb⟩
theorem Sl.more (h : Sl w lo B v cs) (hB : B ≤ B') : Sl w lo B' v cs := let ⟨A, c, h1, h2, h3, h4⟩ := h; ⟨A, c, h1, h2, h3, h4.more hB⟩
theorem Sl.less (h : Sl w lo B v cs) (hl : lo' ≤ lo) : Sl w lo' B v cs := let ⟨A, c, h1, h2, h3, h4⟩ := h; ⟨A, c, h1, h2, h3, h4.less hl⟩
theorem Sl.len (h : Sl w lo B v cs) : cs.length ≤ maxLen := by obtain ⟨A, c, _, h2, h3, _⟩ := h; omega
theorem Sl.of_own {base : Nat} {e : TypeId} {n : Nat} (h : w.ownsRow base e 1 v n cs) : Sl w base w.heap.size v cs := by
  have hl : cs.length = n := by rw [h.1, Nat.mul_one]
  rcases h.2 with ⟨rfl, hn⟩ | ⟨g, cap, cur, rfl, hr⟩
  · subst hn
    have : cs = [] := List.eq_nil_of_length_eq_zero hl
    subst this
    exact ⟨none, 0, rfl, Nat.le_refl _, by simp [maxLen], .inl rfl⟩
  · exact ⟨_, cap, by rw [hl], by rw [hl]; exact hr.2.2.1, hr.2.2.2.1, Rd.of_own h⟩
theorem By.below (h : By w lo B v l) (hb : Below B w w') : By w' lo B v l := Sl.below h hb
theorem By.mid (h : By w lo B v l) (hb : Mid lo B w w') : By w' lo B v l := Sl.mid h hb
theorem By.more (h : By w lo B v l) (hB : B ≤ B') : By w lo B' v l := Sl.more h hB
theorem By.less (h : By w lo B v l) (hl : lo' ≤ lo) : By w lo' B v l := Sl.less h hl
theorem By.len (h : By w lo B v l) : l.length ≤ maxLen := by have := Sl.len h; rwa [List.length_map] at this
/-- Opened: the value, its address and capacity; each byte's cell. -/
theorem By.open_ (h : By w lo B v l) : ∃ A c, v = .slice A l.length c ∧ l.length ≤ c ∧ c ≤ 9223372036854775807 ∧ Rd w lo B A (l.map v8) := by
  obtain ⟨A, c, h1, h2, h3, h4⟩ := h
  rw [List.length_map] at h1 h2
  exact ⟨A, c, h1, h2, by unfold maxLen at h3; exact h3, h4⟩
theorem By.mk_ {A : Option Addr} {c : Nat} (h2 : l.length ≤ c) (h3 : c ≤ maxLen) (h4 : Rd w lo B A (l.map v8)) : By w lo B (.slice A l.length c) l :=
  ⟨A, c, by rw [List.length_map], by rwa [List.length_map], h3, h4⟩
theorem By.nil (w : World) (lo B : Nat) : By w lo B (.slice none 0 0) [] := ⟨none, 0, rfl, Nat.le_refl _, by simp [maxLen], .inl rfl⟩
end
/-- A byte's cell. -/
theorem cell8 {w : World} {g o : Nat} {l : List UInt8} (h : ∀ j u, (l.map v8)[j]? = some u → w.cell? ⟨g, o + j, none⟩ = some u) {k : Nat} (hk : k < l.length) :
    w.cell? ⟨g, o + k, none⟩ = some (.int .u8 (n8 (Sh.g8 l k))) := by
  refine h k _ ?_
  rw [List.getElem?_map, List.getElem?_eq_getElem hk]
  simp [v8, hk, Sh.g8]
theorem set_map {α : Type} (f : α → Value) (l : List α) (i : Nat) (x : α) : (l.map f).set i (f x) = (l.set i x).map f := by rw [List.map_set]
theorem map_at {α : Type} [Inhabited α] (f : α → Value) {l : List α} {i : Nat} (d : α) (h : i < l.length) : (l.map f)[i]? = some (f (l.getD i d)) := by
  rw [List.getElem?_map, List.getElem?_eq_getElem h]; simp [h]
end Go.Proofs.Ytpalomkcgfalnaa
