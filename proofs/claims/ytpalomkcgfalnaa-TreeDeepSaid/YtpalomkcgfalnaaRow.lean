/- Aggregates in memory: 'row?' reads n cells, 'can?' asks whether n cells may be written, 'put' writes them; loads, stores and makings of whole arrays and structs as single steps of the walk. -/
import Derived.Test.YtpalomkcgfalnaaMem
import Derived.Deep.MidRow
import Derived.KernelRfl
set_option linter.unusedVariables false
set_option linter.unusedSimpArgs false
namespace Go.Proofs.Ytpalomkcgfalnaa
open Go Go.RowKit

def rowAt (w : World) (a : Addr) (n : Nat) : Option (List Value) := (List.range n).mapM fun j => w.cell? (a.add j)
def canAt (w : World) (a : Addr) (n : Nat) : Bool := (List.range n).all fun j => (w.cell? (a.add j)).isSome && !w.frozen? (a.add j)
def putAt (w : World) (a : Addr) (cs : List Value) : World := w.setCells a.block a.off cs

theorem mapM_range {α : Type} (f : Nat → Option α) : ∀ (n : Nat) (cs : List α), ((List.range n).mapM f = some cs ↔ cs.length = n ∧ ∀ j (u : α), cs[j]? = some u → f j = some u) := by
  intro n
  induction n with
  | zero =>
    intro cs
    constructor
    · intro h; simp at h; subst h; simp
    · rintro ⟨h, -⟩; have := List.eq_nil_of_length_eq_zero h; subst this; simp
  | succ n ih =>
    intro cs
    rw [List.range_succ, List.mapM_append]
    constructor
    · intro h
      simp only [Option.bind_eq_bind, Option.bind_eq_some_iff, List.mapM_cons, List.mapM_nil] at h
      obtain ⟨xs, hx, ys, ⟨y, hy, z, hz, hyz⟩, he⟩ := h
      obtain ⟨h1, h2⟩ := (ih xs).1 hx
      simp only [pure, Option.some.injEq] at hz hyz he
      subst hz; subst hyz; subst he
      refine ⟨by simp [h1], fun j u hj => ?_⟩
      rcases Nat.lt_or_ge j n with hlt | hge
      · exact h2 j u (by rwa [List.getElem?_append_left (by omega)] at hj)
      · rw [List.getElem?_append_right (by omega)] at hj
        by_cases e : j = n
        · subst e; simp [h1] at hj; subst hj; exact hy
        · rw [List.getElem?_eq_none (by simp; omega)] at hj; cases hj
    · rintro ⟨h1, h2⟩
      have hn : n < cs.length := by omega
      have hx : (List.range n).mapM f = some (cs.take n) := (ih _).2 ⟨by simp; omega, fun j u hj => by
        rw [List.getElem?_take] at hj
        split at hj
        · exact h2 j u hj
        · cases hj⟩
      simp only [Option.bind_eq_bind, Option.bind_eq_some_iff, List.mapM_cons, List.mapM_nil, pure, Option.some.injEq]
      refine ⟨_, hx, [cs[n]], ⟨cs[n], h2 n _ (List.getElem?_eq_getElem hn), [], rfl, rfl⟩, ?_⟩
      rw [List.take_append_getElem]
      exact List.take_of_length_le (by omega)

theorem rowAt_iff {w : World} {g o n : Nat} {cs : List Value} : rowAt w ⟨g, o, none⟩ n = some cs ↔ cs.length = n ∧ w.rangeAt g o cs := by
  unfold rowAt World.rangeAt
  rw [mapM_range]
  simp only [addr_lit]
theorem canAt_iff {w : World} {g o n : Nat} : canAt w ⟨g, o, none⟩ n = true ↔ w.there g o n := by
  unfold canAt World.there
  simp only [List.all_eq_true, List.mem_range, addr_lit, Bool.and_eq_true, Bool.not_eq_true']

section
variable {w w' : World} {a : Addr} {n : Nat}
theorem rowAt_keep (h : ∀ p : Addr, p.block = a.block → w'.cell? p = w.cell? p) : rowAt w' a n = rowAt w a n := by
  unfold rowAt; congr 1; funext j; exact h _ (addr_block _ _)
theorem canAt_keep (h : ∀ p : Addr, p.block = a.block → w'.cell? p = w.cell? p) (hf : ∀ p : Addr, p.block = a.block → w'.frozen? p = w.frozen? p) : canAt w' a n = canAt w a n := by
  unfold canAt; congr 1; funext j; rw [h _ (addr_block _ _), hf _ (addr_block _ _)]
@[go_sem] theorem rowAt_drew : rowAt w.drew a n = rowAt w a n := rfl
@[go_sem] theorem rowAt_drewN (k : Nat) : rowAt (w.drewN k) a n = rowAt w a n := rfl
@[go_sem] theorem canAt_drew : canAt w.drew a n = canAt w a n := rfl
@[go_sem] theorem canAt_drewN (k : Nat) : canAt (w.drewN k) a n = canAt w a n := rfl
@[go_sem] theorem rowAt_alloc (o : Obj) (h : a.block < w.heap.size) : rowAt (w.alloc o) a n = rowAt w a n :=
  rowAt_keep fun p hp => World.cell?_alloc_lt w o p (by omega)
@[go_sem] theorem canAt_alloc (o : Obj) (h : a.block < w.heap.size) : canAt (w.alloc o) a n = canAt w a n :=
  canAt_keep (fun p hp => World.cell?_of_block (Below.heap_alloc w o _ (by omega))) (fun p hp => World.frozen?_of_block (Below.heap_alloc w o _ (by omega)))
theorem rowAt_below {B : Nat} (hb : Below B w w') (h : a.block < B) : rowAt w' a n = rowAt w a n := rowAt_keep fun p hp => hb.cell (by omega)
theorem rowAt_far {p : Addr} (u : Value) (h : a.block ≠ p.block) : rowAt (w.setCell p u) a n = rowAt w a n :=
  rowAt_keep fun q hq => World.cell?_of_block (Below.heap_setCell w p u _ (by omega))
end

theorem heap_setCells (g : Nat) : ∀ (vs : List Value) (o : Nat) (w : World) (k : Nat), k ≠ g → (w.setCells g o vs).heap[k]? = w.heap[k]?
  | [], _, _, _, _ => rfl
  | v :: r, o, w, k, h => (heap_setCells g r (o + 1) _ k h).trans (Below.heap_setCell w ⟨g, o, none⟩ v k h)
theorem size_setCells (g : Nat) : ∀ (vs : List Value) (o : Nat) (w : World), (w.setCells g o vs).heap.size = w.heap.size
  | [], _, _ => rfl
  | v :: r, o, w => (size_setCells g r (o + 1) _).trans (by simp [World.setCell])
theorem below_setCells {B g : Nat} {a : World} (hg : B ≤ g) : ∀ (vs : List Value) (o : Nat) {w : World}, Below B a w → Below B a (w.setCells g o vs)
  | [], _, _, h => h
  | v :: r, o, _, h => below_setCells hg r (o + 1) (h.setCell (p := ⟨g, o, none⟩) hg v)
@[simp, go_sem] theorem size_putAt (w : World) (a : Addr) (cs : List Value) : (putAt w a cs).heap.size = w.heap.size := size_setCells _ _ _ _
theorem below_putAt {B : Nat} {v w : World} (h : Below B v w) {a : Addr} (ha : B ≤ a.block) (cs : List Value) : Below B v (putAt w a cs) := below_setCells ha _ _ h

section
variable {w : World} {g : Nat} {t : TypeId} {cs : List Value}
theorem Bk.row (h : Bk w g t cs) {o n : Nat} (hn : o + n ≤ cs.length) : rowAt w ⟨g, o, none⟩ n = some ((cs.drop o).take n) :=
  rowAt_iff.2 ⟨by simp; omega, fun j u hj => by
    rw [List.getElem?_take] at hj
    split at hj
    · rw [List.getElem?_drop] at hj; exact h.at_ hj
    · cases hj⟩
theorem Bk.rows (h : Bk w g t cs) : rowAt w ⟨g, 0, none⟩ cs.length = some cs := by
  rw [h.row (by omega)]; simp
theorem Bk.can (h : Bk w g t cs) {o n : Nat} (hn : o + n ≤ cs.length) : canAt w ⟨g, o, none⟩ n = true :=
  canAt_iff.2 fun j hj => ⟨by rw [h.cell, List.getElem?_eq_getElem (by omega)]; rfl, h.frozen _⟩
theorem Bk.setCells : ∀ (vs : List Value) (o : Nat) {w : World} {cs : List Value}, Bk w g t cs → o + vs.length ≤ cs.length → Bk (w.setCells g o vs) g t (cs.take o ++ vs ++ cs.drop (o + vs.length))
  | [], o, w, cs, h, _ => by simpa [World.setCells] using h
  | v :: r, o, w, cs, h, hl => by
    have hl' : o + (r.length + 1) ≤ cs.length := by simpa using hl
    have h1 := Bk.setCells r (o + 1) (h.set_ o v) (by simp; omega)
    have e : (cs.set o v).take (o + 1) ++ r ++ (cs.set o v).drop (o + 1 + r.length) = cs.take o ++ v :: r ++ cs.drop (o + (v :: r).length) := by
      rw [List.drop_set_of_lt (by omega)]
      have : (cs.set o v).take (o + 1) = cs.take o ++ [v] := by
        rw [List.take_add_one, List.take_set_of_le (by omega)]
        simp [show o < cs.length by omega]
      rw [this]
      simp [Nat.add_assoc, Nat.add_comm 1]
    rw [e] at h1
    exact h1
theorem Bk.put (h : Bk w g t cs) {o : Nat} {vs : List Value} (hl : o + vs.length ≤ cs.length) : Bk (putAt w ⟨g, o, none⟩ vs) g t (cs.take o ++ vs ++ cs.drop (o + vs.length)) := Bk.setCells vs o h hl
theorem Bk.puts (h : Bk w g t cs) {vs : List Value} (hl : vs.length = cs.length) : Bk (putAt w ⟨g, 0, none⟩ vs) g t vs := by
  have := h.put (o := 0) (vs := vs) (by omega)
  simpa [hl] using this
theorem Bk.putFar (h : Bk w g t cs) {p : Addr} (hp : g ≠ p.block) (vs : List Value) : Bk (putAt w p vs) g t cs := (heap_setCells _ _ _ _ _ hp).trans h
end
theorem Mid.putAt {lo hi : Nat} {a w : World} (h : Mid lo hi a w) {p : Addr} (hp : p.block < lo ∨ hi ≤ p.block) (vs : List Value) : Mid lo hi a (putAt w p vs) := fun k h1 h2 => (heap_setCells _ _ _ _ _ (by omega)).trans (h k h1 h2)

section
variable (k : IntKind) (n : Int) (b : Bool) (s : ByteArray) (p : Option Addr) (l c : Nat) (t : TypeId) (v : Value) (r : Option Nat)
@[go_sem] theorem one_int : (Value.int k n).oneCell' = true := rfl
@[go_sem] theorem one_bool : (Value.bool b).oneCell' = true := rfl
@[go_sem] theorem one_string : (Value.string s).oneCell' = true := rfl
@[go_sem] theorem one_pointer : (Value.pointer p).oneCell' = true := rfl
@[go_sem] theorem one_slice : (Value.slice p l c).oneCell' = true := rfl
@[go_sem] theorem one_map : (Value.map r).oneCell' = true := rfl
@[go_sem] theorem one_iface : (Value.iface t v).oneCell' = true := rfl
@[go_sem] theorem one_nilIface : Value.nilIface.oneCell' = true := rfl
end

/-! ### The operations -/
/-- The operation as the model runs it, behind a name. -/
def rawOp (P : Program) (ρ : Operand → Value) (o : Oper) (w : World) : Result Next := (execOp ρ o).run P w
def loadOp (n : Nat) (w : World) (raw : Result Next) : Value → Result Next
  | .pointer (some a) => (rowAt w a n).elim raw (fun cs => .ok (.value (.agg cs.toArray)) w)
  | _ => raw
@[go_sem] theorem loadOp_at (n : Nat) (w : World) (raw : Result Next) (a : Addr) : loadOp n w raw (.pointer (some a)) = (rowAt w a n).elim raw (fun cs => .ok (.value (.agg cs.toArray)) w) := rfl
def storeOp (n : Nat) (w : World) (raw : Result Next) : Value → Value → Result Next
  | .pointer (some a), .agg cs => if cs.size = n ∧ cs.all (·.oneCell') = true ∧ canAt w a n = true then .ok .skip (putAt w a cs.toList) else raw
  | _, _ => raw
@[go_sem] theorem storeOp_at (n : Nat) (w : World) (raw : Result Next) (a : Addr) (cs : Array Value) : storeOp n w raw (.pointer (some a)) (.agg cs) =
    if cs.size = n ∧ cs.all (·.oneCell') = true ∧ canAt w a n = true then .ok .skip (putAt w a cs.toList) else raw := rfl

section
variable {P : Program} (w : World) (ρ : Operand → Value) (dst : Option Tmp) (ty : TypeId) (pos : String) (after : Array Edge) (guard : Option (Nat × Bool))
theorem spot_none {w : World} {a : Addr} {n : Nat} {cs : List Value} (hn : 0 < n) (h : rowAt w a n = some cs) : a.spot = none := by
  have h1 := ((mapM_range (fun j => w.cell? (a.add j)) n cs).1 h)
  have hc : cs[0]? = some cs[0] := List.getElem?_eq_getElem (by omega)
  have := h1.2 0 _ hc
  have h2 : w.cell? a = some cs[0] := by simpa [Addr.add] using this
  exact World.cell?_spot h2
theorem exec_load (t n : TypeId) (d : TypeDesc) (x : Operand) (hn : 0 < n) (hu : P.underlying t = some d) (hd : d.isRow = true) (hi : (P.info? t).map (·.size) = some n) :
    (execOp ρ { dst, op := .load t x, type := ty, pos, after, guard }).run P w = loadOp n w (rawOp P ρ { dst, op := .load t x, type := ty, pos, after, guard } w) (ρ x) := by
  generalize hv : ρ x = v
  unfold loadOp
  split
  · rename_i a
    cases hr : rowAt w a n with
    | none => rfl
    | some cs =>
      have hs := spot_none hn hr
      obtain ⟨g, o, s⟩ := a
      simp only at hs
      subst hs
      obtain ⟨hl, hc⟩ := rowAt_iff.1 hr
      have h1 := run_loadAt_mid (P := P) w g o t cs d hc hu hd (by rw [hi, hl])
      unfold execOp
      simp only [hv, Sem.run_bind, h1, Result.andThen_ok, Option.elim_some]
      rfl
  · rfl
theorem exec_store (t n : TypeId) (x y : Operand) (hn : 0 < n) (hi : (P.info? t).map (·.size) = some n) :
    (execOp ρ { dst, op := .store t x y, type := ty, pos, after, guard }).run P w = storeOp n w (rawOp P ρ { dst, op := .store t x y, type := ty, pos, after, guard } w) (ρ x) (ρ y) := by
  generalize hv : ρ x = v
  generalize hz : ρ y = z
  unfold storeOp
  split
  · rename_i a cs
    by_cases hc : cs.size = n ∧ cs.all (·.oneCell') = true ∧ canAt w a n = true
    · rw [if_pos hc]
      obtain ⟨h1, h2, h3⟩ := hc
      have hs : a.spot = none := by
        have h4 : (w.cell? (a.add 0)).isSome = true := by
          unfold canAt at h3
          have := List.all_eq_true.1 h3 0 (List.mem_range.2 hn)
          simp only [Bool.and_eq_true] at this
          exact this.1
        cases h5 : w.cell? (a.add 0) with
        | none => rw [h5] at h4; cases h4
        | some u => exact World.cell?_spot (by simpa [Addr.add] using h5)
      obtain ⟨g, o, s⟩ := a
      simp only at hs
      subst hs
      have h6 := run_storeAt_mid (P := P) w g o t cs (by rw [h1]; exact canAt_iff.1 h3) (by rw [hi, h1]) h2
      unfold execOp
      simp only [hv, hz, Sem.run_bind, h6, Result.andThen_ok]
      rfl
    · rw [if_neg hc]; rfl
  · rfl
theorem exec_alloc (t : TypeId) (z : Value) (hi : ((P.info? t).bind (·.zero)) = some z) :
    (execOp ρ { dst, op := .alloc t, type := ty, pos, after, guard }).run P w = .ok (.value (.pointer (some ⟨w.heap.size, 0, none⟩))) (w.alloc (.cells z.cells t)) := by
  cases hq : P.info? t with
  | none => simp [hq] at hi
  | some i =>
    have hz : i.zero = some z := by simpa [hq] using hi
    simp [execOp, Instr.alloc, zeroValue, typeInfo, hq, hz, newVar, newRow]
end
end Go.Proofs.Ytpalomkcgfalnaa
