/- A part of the proof of ClientForks. -/
import Derived.Test.YtdfpoofbgjilgaaGreatVaa
set_option linter.unusedVariables false
set_option linter.unusedSimpArgs false
set_option maxRecDepth 100000
set_option maxHeartbeats 40000000
namespace Go.Proofs.YtdfpoofbgjilgaaGreat
open Go Go.RowKit Sh
section
section
variable {w v V : World} {B g p o n m : Nat} {ob : Obj} {T : TypeId} {ds vs : List Value} {u : Value}
theorem BA' (h : V = w.alloc ob) : Below w.heap.size w V := h ▸ (Below.refl _ _).alloc (Nat.le_refl _) _
theorem BN' (w : World) (ob : Obj) : Below w.heap.size w (w.alloc ob) := (Below.refl _ _).alloc (Nat.le_refl _) _
theorem BB' (h : V = w.alloc ob) (b : Below B v w) (hB : B ≤ w.heap.size := by assumption) : Below B v V := h ▸ b.alloc hB _
theorem BC' (h : V = w.alloc ob) (b : Below v.heap.size v w) : Below v.heap.size v V := h ▸ b.alloc b.size _
theorem BP' (h : V = C4 w ⟨p, o, none⟩ vs) (b : Below B v w) (l : B ≤ p) : Below B v V := h ▸ C0 b l _
theorem BS' (h : V = w.setCell ⟨p, o, none⟩ u) (b : Below B v w) (l : B ≤ p) : Below B v V := h ▸ b.setCell l _
theorem BD' (w : World) : Below w.heap.size w w.drew := (Below.refl _ _).drew
theorem BT' (b : Below v.heap.size v w) (c : Below w.heap.size w V) : Below v.heap.size v V := b.trans (c.mono b.size)
theorem KF' (h : V = C4 w ⟨p, o, none⟩ vs) (k : Bk w g T ds) (e : g ≠ p) : Bk V g T ds := h ▸ k.putFar e _
theorem KS' (h : V = w.setCell ⟨p, o, none⟩ u) (k : Bk w g T ds) (e : g ≠ p) : Bk V g T ds := h ▸ k.far e _
theorem KA' (h : V = w.alloc ob) (k : Bk w g T ds) : Bk V g T ds := h ▸ k.alloc _
theorem KN' (h : V = w.alloc (.cells ds.toArray T)) : Bk V w.heap.size T ds := h ▸ Bk.new _ _ _
theorem Bk.bl (k : Bk w g T ds) (h : Below w.heap.size w V) : Bk V g T ds := k.below h k.lt
theorem LD' (k : Bk w g T ds) (h : w.drew.heap.size ≤ n) : g < n := Nat.lt_of_lt_of_le k.drew.lt h
theorem LS' (s : w.heap.size = n) (k : Bk w g T ds) : g < n := s ▸ k.lt
theorem ZP' (h : V = C4 w ⟨p, o, none⟩ vs) (z : n ≤ w.heap.size) : n ≤ V.heap.size := by rw [h]; simpa using z
theorem ZS' (h : V = w.setCell ⟨p, o, none⟩ u) (z : n ≤ w.heap.size) : n ≤ V.heap.size := by rw [h]; simp [World.setCell]; exact z
theorem ZA' (h : V = w.alloc ob) (z : n ≤ w.heap.size) : n ≤ V.heap.size := by rw [h]; simp; omega
theorem P8' {l m : List UInt8} (n : Nat) (h : V = C4 w ⟨g, 0, none⟩ (c8 m)) (k : Bk w g T (c8 l)) (e : l.length = n) (e2 : m.length = n) : Bk V g T (c8 m) := h ▸ k.puts (by simp [c8, e, e2])
theorem C8' {l : List UInt8} (n : Nat) (k : Bk w g T (c8 l)) (e : l.length = n) : E7 w ⟨g, 0, none⟩ n = true := k.can (by simp [c8, e])
theorem CN' (n : Nat) (k : Bk w g T ds) (e : 0 + n ≤ ds.length) : E7 w ⟨g, 0, none⟩ n = true := k.can e
end
theorem FC' {α : Type} {p : α → Prop} {a : α} {l : List α} (h : p a ∧ ∀ x, x ∈ l → p x) : ∀ x, x ∈ a :: l → p x := List.forall_mem_cons.2 h
theorem FN' {α : Type} {p : α → Prop} : ∀ x, x ∈ ([] : List α) → p x := fun _ h => by cases h
theorem MG' {α : Type} {a : α} {l : List α} (i : Nat) (h : l[i]? = some a) : a ∈ l := List.mem_of_getElem? h
theorem EX' {α : Type} (a : α) : ∃ x, x = a := ⟨a, rfl⟩
theorem SC' {α : Type} : (∀ (a : α) (s : List α) (n : Nat) (b : α), (a :: s).set (n + 1) b = a :: s.set n b) ∧ ∀ (a : α) (s : List α) (b : α), (a :: s).set 0 b = b :: s := ⟨fun _ _ _ _ => rfl, fun _ _ _ => rfl⟩
theorem GC' {α : Type} : (∀ (a : α) (s : List α), (a :: s)[0]? = some a) ∧ ∀ (a : α) (s : List α) (n : Nat), (a :: s)[n + 1]? = s[n]? := ⟨fun _ _ => rfl, fun _ _ _ => rfl⟩
theorem AC' {α : Type} : (∀ s : List α, [] ++ s = s) ∧ ∀ (a : α) (s b : List α), a :: s ++ b = a :: (s ++ b) := ⟨fun _ => rfl, fun _ _ _ => rfl⟩
end
end Go.Proofs.YtdfpoofbgjilgaaGreat
