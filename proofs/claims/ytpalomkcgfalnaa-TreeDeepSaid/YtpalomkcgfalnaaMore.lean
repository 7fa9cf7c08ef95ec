/- More on whole rows: what a write leaves of what may be written and of other blocks; two blocks made one behind the other. -/
import Derived.Test.YtpalomkcgfalnaaArr
import Derived.Stop.BytesEq
set_option linter.unusedVariables false
set_option linter.unusedSimpArgs false
namespace Go.Proofs.Ytpalomkcgfalnaa
open Go Go.RowKit
theorem isSome_setCells (g : Nat) : ∀ (vs : List Value) (o : Nat) (w : World) (x : Addr), ((w.setCells g o vs).cell? x).isSome = (w.cell? x).isSome
  | [], _, _, _ => rfl
  | v :: r, o, w, x => by
    rw [World.setCells, isSome_setCells g r (o + 1) _ x]
    by_cases h : x.block = g
    · unfold World.cell? World.setCell
      simp only [Array.getElem?_modify, h, if_true]
      cases w.heap[g]? with
      | none => rfl
      | some ob =>
        cases ob with
        | cells c e f =>
          simp only [Option.map_some, Option.isSome_none, Bool.false_eq_true, if_false]
          split
          · rfl
          · rw [Array.getElem?_setIfInBounds]
            split
            · rename_i hx
              subst hx
              split
              · rename_i hl; simp [Array.getElem?_eq_getElem hl]
              · rename_i hl; simp [Array.getElem?_eq_none (Nat.le_of_not_lt hl)]
            · rfl
        | _ => rfl
    · rw [World.cell?_of_block (Below.heap_setCell w ⟨g, o, none⟩ v x.block (by simpa using h))]
@[go_sem] theorem canAt_putAt (w : World) (p a : Addr) (vs : List Value) (n : Nat) : canAt (putAt w p vs) a n = canAt w a n := by
  unfold canAt putAt
  congr 1; funext j
  rw [isSome_setCells, World.frozen?_setCells]
@[go_sem] theorem canAt_setCell (w : World) (p : Addr) (hp : p.spot = none) (v : Value) (a : Addr) (n : Nat) : canAt (w.setCell p v) a n = canAt w a n := by
  obtain ⟨g, o, s⟩ := p
  simp only at hp; subst hp
  exact canAt_putAt w ⟨g, o, none⟩ a [v] n
@[go_sem] theorem rowAt_putAt (w : World) (p a : Addr) (vs : List Value) (n : Nat) (h : a.block ≠ p.block) : rowAt (putAt w p vs) a n = rowAt w a n :=
  rowAt_keep fun q hq => World.cell?_of_block (heap_setCells _ _ _ _ _ (by omega))
@[go_sem] theorem rowAt_setCell (w : World) (p a : Addr) (v : Value) (n : Nat) (h : a.block ≠ p.block) : rowAt (w.setCell p v) a n = rowAt w a n :=
  rowAt_far v h
@[go_sem] theorem cell?_putAt (w : World) (p a : Addr) (vs : List Value) (h : a.block ≠ p.block) : (putAt w p vs).cell? a = w.cell? a :=
  World.cell?_of_block (heap_setCells _ _ _ _ _ h)
@[go_sem] theorem frozen?_putAt (w : World) (p a : Addr) (vs : List Value) : (putAt w p vs).frozen? a = w.frozen? a := World.frozen?_setCells _ _ _ _ _
@[go_sem] theorem rowAt_new2 (w : World) (A : Obj) (cs : List Value) (t n : Nat) (h : cs.length = n) : rowAt ((w.alloc A).alloc (.cells cs.toArray t)) ⟨w.heap.size + 1, 0, none⟩ n = some cs := by
  have := rowAt_new (w.alloc A) cs t n h
  simpa using this
@[go_sem] theorem canAt_new2 (w : World) (A : Obj) (cs : List Value) (t n : Nat) (h : cs.length = n) : canAt ((w.alloc A).alloc (.cells cs.toArray t)) ⟨w.heap.size + 1, 0, none⟩ n = true := by
  have := canAt_new (w.alloc A) cs t n h
  simpa using this
/-! ### Arrays of bytes compared -/
open Classical in
/-- The bytes of an array's value. -/
noncomputable def asBytes (v : Value) : Option (List UInt8) := if h : ∃ l, v = A8 l then some h.choose else none
theorem n8inj {x y : UInt8} (h : v8 x = v8 y) : x = y := by
  unfold v8 at h; injection h with _ h; exact n8_inj h
theorem A8_inj {xs ys : List UInt8} (h : A8 xs = A8 ys) : xs = ys := by
  unfold A8 c8 at h
  injection h with h
  have h2 : xs.map v8 = ys.map v8 := by injection h
  exact (List.map_inj_right fun _ _ => n8inj).1 h2
theorem asBytes_A8 (l : List UInt8) : asBytes (A8 l) = some l := by
  have h : ∃ m, A8 l = A8 m := ⟨l, rfl⟩
  unfold asBytes
  rw [dif_pos h]
  exact congrArg some (A8_inj h.choose_spec).symm
theorem of_asBytes {v : Value} {l : List UInt8} (h : asBytes v = some l) : v = A8 l := by
  unfold asBytes at h
  split at h
  · rename_i hh
    injection h with h
    rw [← h]; exact hh.choose_spec
  · cases h
noncomputable def eqlOp (neg : Bool) (n : Nat) (w : World) (raw : Result Next) (a b : Value) : Result Next :=
  match asBytes a, asBytes b with
  | some xs, some ys => if xs.length = n ∧ ys.length = n then .ok (.value (.bool (neg != (xs == ys)))) w else raw
  | _, _ => raw
@[go_sem] theorem eqlOp_A8 (neg : Bool) (n : Nat) (w : World) (raw : Result Next) (xs ys : List UInt8) (hx : xs.length = n) (hy : ys.length = n) : eqlOp neg n w raw (A8 xs) (A8 ys) = .ok (.value (.bool (neg != (xs == ys)))) w := by
  unfold eqlOp
  rw [asBytes_A8, asBytes_A8]
  exact if_pos ⟨hx, hy⟩
section
variable {P : Program} (w : World) (ρ : Operand → Value) (dst : Option Tmp) (ty : TypeId) (pos : String) (after : Array Edge) (guard : Option (Nat × Bool))
theorem exec_eql (t e n : TypeId) (x y : Operand) (yt : TypeId) (hu : P.underlying t = some (.array n e)) (he : P.underlying e = some (.int .u8)) (hi : (P.info? e).map (·.size) = some 1) (hg : P.eqGuardType P.depth t = false) :
    (execOp ρ { dst, op := .binOp .eql t x y yt, type := ty, pos, after, guard }).run P w = eqlOp false n w (rawOp P ρ { dst, op := .binOp .eql t x y yt, type := ty, pos, after, guard } w) (ρ x) (ρ y) := by
  generalize hv : ρ x = a
  generalize hz : ρ y = b
  unfold eqlOp
  split
  · rename_i xs ys h1 h2
    replace h1 := of_asBytes h1
    replace h2 := of_asBytes h2
    split
    · rename_i h
      obtain ⟨h3, h4⟩ := h
      have hsz : ∀ w, (sizeOf e).run P w = .ok 1 w := fun w => by
        cases hq : P.info? e with
        | none => simp [hq] at hi
        | some j => simp [hq] at hi; simp [sizeOf, typeInfo, hq, hi]
      have hgd : (eqGuard .eql t x y a b).run P w = .ok () w := by rw [h1, h2]; exact run_eqGuard_agg (P := P) w .eql t x y _ _ hg
      have e1 : (binOp .eql t a b).run P w = .ok (.bool (xs == ys)) w := by
        rw [h1, h2]; exact run_eql_bytes (P := P) w t e n hu he hsz _ _ h3 h4
      simp only [execOp, hv, hz, Sem.run_bind, hgd, Result.andThen_ok, e1, Sem.run_pure]
      simp
    · rfl
  · rfl
theorem exec_neq (t e n : TypeId) (x y : Operand) (yt : TypeId) (hu : P.underlying t = some (.array n e)) (he : P.underlying e = some (.int .u8)) (hi : (P.info? e).map (·.size) = some 1) (hg : P.eqGuardType P.depth t = false) :
    (execOp ρ { dst, op := .binOp .neq t x y yt, type := ty, pos, after, guard }).run P w = eqlOp true n w (rawOp P ρ { dst, op := .binOp .neq t x y yt, type := ty, pos, after, guard } w) (ρ x) (ρ y) := by
  generalize hv : ρ x = a
  generalize hz : ρ y = b
  unfold eqlOp
  split
  · rename_i xs ys h1 h2
    replace h1 := of_asBytes h1
    replace h2 := of_asBytes h2
    split
    · rename_i h
      obtain ⟨h3, h4⟩ := h
      have hsz : ∀ w, (sizeOf e).run P w = .ok 1 w := fun w => by
        cases hq : P.info? e with
        | none => simp [hq] at hi
        | some j => simp [hq] at hi; simp [sizeOf, typeInfo, hq, hi]
      have hgd : (eqGuard .neq t x y a b).run P w = .ok () w := by rw [h1, h2]; exact run_eqGuard_agg (P := P) w .neq t x y _ _ hg
      have e1 : (binOp .neq t a b).run P w = .ok (.bool (!(xs == ys))) w := by
        rw [h1, h2, A8, A8, run_neq_struct]
        exact congrArg (fun r : Result Bool => r.andThen fun b w' => Result.ok (Value.bool (!b)) w') (run_equalIn_bytes (P := P) w 9998 t e n hu he hsz _ _ h3 h4)
      simp only [execOp, hv, hz, Sem.run_bind, hgd, Result.andThen_ok, e1, Sem.run_pure]
      simp
    · rfl
  · rfl
end
@[go_sem ↓ high] theorem eql_h32 (w : World) (ρ : Operand → Value) (dst : Option Tmp) (ty : TypeId) (pos : String) (after : Array Edge) (guard : Option (Nat × Bool)) (x y : Operand) (yt : TypeId) :
    (execOp ρ { dst, op := .binOp .eql 25 x y yt, type := ty, pos, after, guard }).run Try.prog w = eqlOp false 32 w (rawOp Try.prog ρ { dst, op := .binOp .eql 25 x y yt, type := ty, pos, after, guard } w) (ρ x) (ρ y) :=
  exec_eql w ρ dst ty pos after guard 25 5 32 x y yt Try.underlying25 Try.underlying5 (by kernel_rfl) (by kernel_rfl)
@[go_sem ↓ high] theorem neq_h32 (w : World) (ρ : Operand → Value) (dst : Option Tmp) (ty : TypeId) (pos : String) (after : Array Edge) (guard : Option (Nat × Bool)) (x y : Operand) (yt : TypeId) :
    (execOp ρ { dst, op := .binOp .neq 25 x y yt, type := ty, pos, after, guard }).run Try.prog w = eqlOp true 32 w (rawOp Try.prog ρ { dst, op := .binOp .neq 25 x y yt, type := ty, pos, after, guard } w) (ρ x) (ρ y) :=
  exec_neq w ρ dst ty pos after guard 25 5 32 x y yt Try.underlying25 Try.underlying5 (by kernel_rfl) (by kernel_rfl)
@[go_sem ↓ high] theorem eql_h64 (w : World) (ρ : Operand → Value) (dst : Option Tmp) (ty : TypeId) (pos : String) (after : Array Edge) (guard : Option (Nat × Bool)) (x y : Operand) (yt : TypeId) :
    (execOp ρ { dst, op := .binOp .eql 27 x y yt, type := ty, pos, after, guard }).run Try.prog w = eqlOp false 64 w (rawOp Try.prog ρ { dst, op := .binOp .eql 27 x y yt, type := ty, pos, after, guard } w) (ρ x) (ρ y) :=
  exec_eql w ρ dst ty pos after guard 27 5 64 x y yt Try.underlying27 Try.underlying5 (by kernel_rfl) (by kernel_rfl)
@[go_sem ↓ high] theorem neq_h64 (w : World) (ρ : Operand → Value) (dst : Option Tmp) (ty : TypeId) (pos : String) (after : Array Edge) (guard : Option (Nat × Bool)) (x y : Operand) (yt : TypeId) :
    (execOp ρ { dst, op := .binOp .neq 27 x y yt, type := ty, pos, after, guard }).run Try.prog w = eqlOp true 64 w (rawOp Try.prog ρ { dst, op := .binOp .neq 27 x y yt, type := ty, pos, after, guard } w) (ρ x) (ρ y) :=
  exec_neq w ρ dst ty pos after guard 27 5 64 x y yt Try.underlying27 Try.underlying5 (by kernel_rfl) (by kernel_rfl)
end Go.Proofs.Ytpalomkcgfalnaa
