/- More on whole rows: what a write leaves of what may be written and of other blocks; two blocks made one behind the other. · witanlaw02.first: the digests of abc are what they must be. · A region that draws its order: the operations that only read (under a condition S on the world) are taken first, in a list of their own; the rest comes one by one, S being shown anew behind each. · A region that draws its order, walked as one likes: what only reads is taken first whenever it may come up; of the rest, what comes up next (one operation, or each of several). 'done' tells what has come up. · A region that draws its order, by an invariant: whatever has come up, each operation that may come up next keeps it. · Several results, some of them in memory. · min of two integers without a parting of ways. · Regions that draw their order and whose calls make memory: the class of worlds that are the one at hand with blocks behind it. Loads of old blocks, arithmetic and calls whose value hangs on nothing new are walked once. · Strings made of byte slices, and compared: single steps of the walk; S8 l is the string of these bytes. -/
import Derived.Test.YtlegpkdighoflaaMA
import Derived.Stop.BytesEq
import Derived.Test.YtlegpkdighoflaaSum256
import Derived.Test.YtlegpkdighoflaaSum512
import Derived.Lib.SlBytesConst
import Derived.OrdersHeld
import Derived.Deep.RegionHeld3
import Derived.Deep.Quiet
import Derived.BigQuiet
import Derived.StillTail
import Derived.WalkKit
import Derived.Laws.Small
import Derived.Test.YtlegpkdighoflaaMB
import Derived.Laws.BytesString
import Derived.KernelRfl
set_option linter.unusedVariables false
set_option linter.unusedSimpArgs false
namespace Go.Proofs.Ytlegpkdighoflaa
open Go Go.RowKit
theorem isSome_setCells (g : Nat) : ∀ (vs : List Value) (o : Nat) (w : World) (x : Addr), ((w.setCells g o vs).cell? x).isSome = (w.cell? x).isSome
  | [], _, _, _ => rfl
  | v :: r, o, w, x => by
    rw [World.setCells, isSome_setCells g r (o + 1) _ x]
    by_cases h : x.block = g
    · unfold World.cell? World.setCell
      simp only [Array.getElem?_modify, h, if_true]
      cases w.heap[g]? with
      | none => rfl
      | some ob =>
        cases ob with
        | cells c e f =>
          simp only [Option.map_some, Option.isSome_none, Bool.false_eq_true, if_false]
          split
          · rfl
          · rw [Array.getElem?_setIfInBounds]
            split
            · rename_i hx
              subst hx
              split
              · rename_i hl; simp [Array.getElem?_eq_getElem hl]
              · rename_i hl; simp [Array.getElem?_eq_none (Nat.le_of_not_lt hl)]
            · rfl
        | _ => rfl
    · rw [World.cell?_of_block (Below.heap_setCell w ⟨g, o, none⟩ v x.block (by simpa using h))]
@[go_sem] theorem canAt_putAt (w : World) (p a : Addr) (vs : List Value) (n : Nat) : canAt (putAt w p vs) a n = canAt w a n := by
  unfold canAt putAt
  congr 1; funext j
  rw [isSome_setCells, World.frozen?_setCells]
@[go_sem] theorem canAt_setCell (w : World) (p : Addr) (hp : p.spot = none) (v : Value) (a : Addr) (n : Nat) : canAt (w.setCell p v) a n = canAt w a n := by
  obtain ⟨g, o, s⟩ := p
  simp only at hp; subst hp
  exact canAt_putAt w ⟨g, o, none⟩ a [v] n
@[go_sem] theorem rowAt_putAt (w : World) (p a : Addr) (vs : List Value) (n : Nat) (h : a.block ≠ p.block) : rowAt (putAt w p vs) a n = rowAt w a n :=
  rowAt_keep fun q hq => World.cell?_of_block (heap_setCells _ _ _ _ _ (by omega))
@[go_sem] theorem rowAt_setCell (w : World) (p a : Addr) (v : Value) (n : Nat) (h : a.block ≠ p.block) : rowAt (w.setCell p v) a n = rowAt w a n :=
  rowAt_far v h
@[go_sem] theorem cell?_putAt (w : World) (p a : Addr) (vs : List Value) (h : a.block ≠ p.block) : (putAt w p vs).cell? a = w.cell? a :=
  World.cell?_of_block (heap_setCells _ _ _ _ _ h)
@[go_sem] theorem frozen?_putAt (w : World) (p a : Addr) (vs : List Value) : (putAt w p vs).frozen? a = w.frozen? a := World.frozen?_setCells _ _ _ _ _
@[go_sem] theorem rowAt_new2 (w : World) (A : Obj) (cs : List Value) (t n : Nat) (h : cs.length = n) : rowAt ((w.alloc A).alloc (.cells cs.toArray t)) ⟨w.heap.size + 1, 0, none⟩ n = some cs := by
  have := rowAt_new (w.alloc A) cs t n h
  simpa using this
@[go_sem] theorem canAt_new2 (w : World) (A : Obj) (cs : List Value) (t n : Nat) (h : cs.length = n) : canAt ((w.alloc A).alloc (.cells cs.toArray t)) ⟨w.heap.size + 1, 0, none⟩ n = true := by
  have := canAt_new (w.alloc A) cs t n h
  simpa using this
/-! ### Arrays of bytes compared -/
open Classical in
/-- The bytes of an array's value. -/
noncomputable def asBytes (v : Value) : Option (List UInt8) := if h : ∃ l, v = A8 l then some h.choose else none
theorem n8inj {x y : UInt8} (h : v8 x = v8 y) : x = y := by
  unfold v8 at h; injection h with _ h; exact n8_inj h
theorem A8_inj {xs ys : List UInt8} (h : A8 xs = A8 ys) : xs = ys := by
  unfold A8 c8 at h
  injection h with h
  have h2 : xs.map v8 = ys.map v8 := by injection h
  exact (List.map_inj_right fun _ _ => n8inj).1 h2
theorem asBytes_A8 (l : List UInt8) : asBytes (A8 l) = some l := by
  have h : ∃ m, A8 l = A8 m := ⟨l, rfl⟩
  unfold asBytes
  rw [dif_pos h]
  exact congrArg some (A8_inj h.choose_spec).symm
theorem of_asBytes {v : Value} {l : List UInt8} (h : asBytes v = some l) : v = A8 l := by
  unfold asBytes at h
  split at h
  · rename_i hh
    injection h with h
    rw [← h]; exact hh.choose_spec
  · cases h
noncomputable def eqlOp (neg : Bool) (n : Nat) (w : World) (raw : Result Next) (a b : Value) : Result Next :=
  match asBytes a, asBytes b with
  | some xs, some ys => if xs.length = n ∧ ys.length = n then .ok (.value (.bool (neg != (xs == ys)))) w else raw
  | _, _ => raw
@[go_sem] theorem eqlOp_A8 (neg : Bool) (n : Nat) (w : World) (raw : Result Next) (xs ys : List UInt8) (hx : xs.length = n) (hy : ys.length = n) : eqlOp neg n w raw (A8 xs) (A8 ys) = .ok (.value (.bool (neg != (xs == ys)))) w := by
  unfold eqlOp
  rw [asBytes_A8, asBytes_A8]
  exact if_pos ⟨hx, hy⟩
section
variable {P : Program} (w : World) (ρ : Operand → Value) (dst : Option Tmp) (ty : TypeId) (pos : String) (after : Array Edge) (guard : Option (Nat × Bool))
theorem exec_eql (t e n : TypeId) (x y : Operand) (yt : TypeId) (hu : P.underlying t = some (.array n e)) (he : P.underlying e = some (.int .u8)) (hi : (P.info? e).map (·.size) = some 1) (hg : P.eqGuardType P.depth t = false) :
    (execOp ρ { dst, op := .binOp .eql t x y yt, type := ty, pos, after, guard }).run P w = eqlOp false n w (rawOp P ρ { dst, op := .binOp .eql t x y yt, type := ty, pos, after, guard } w) (ρ x) (ρ y) := by
  generalize hv : ρ x = a
  generalize hz : ρ y = b
  unfold eqlOp
  split
  · rename_i xs ys h1 h2
    replace h1 := of_asBytes h1
    replace h2 := of_asBytes h2
    split
    · rename_i h
      obtain ⟨h3, h4⟩ := h
      have hsz : ∀ w, (sizeOf e).run P w = .ok 1 w := fun w => by
        cases hq : P.info? e with
        | none => simp [hq] at hi
        | some j => simp [hq] at hi; simp [sizeOf, typeInfo, hq, hi]
      have hgd : (eqGuard .eql t x y a b).run P w = .ok () w := by rw [h1, h2]; exact run_eqGuard_agg (P := P) w .eql t x y _ _ hg
      have e1 : (binOp .eql t a b).run P w = .ok (.bool (xs == ys)) w := by
        rw [h1, h2]; exact run_eql_bytes (P := P) w t e n hu he hsz _ _ h3 h4
      simp only [execOp, hv, hz, Sem.run_bind, hgd, Result.andThen_ok, e1, Sem.run_pure]
      simp
    · rfl
  · rfl
theorem exec_neq (t e n : TypeId) (x y : Operand) (yt : TypeId) (hu : P.underlying t = some (.array n e)) (he : P.underlying e = some (.int .u8)) (hi : (P.info? e).map (·.size) = some 1) (hg : P.eqGuardType P.depth t = false) :
    (execOp ρ { dst, op := .binOp .neq t x y yt, type := ty, pos, after, guard }).run P w = eqlOp true n w (rawOp P ρ { dst, op := .binOp .neq t x y yt, type := ty, pos, after, guard } w) (ρ x) (ρ y) := by
  generalize hv : ρ x = a
  generalize hz : ρ y = b
  unfold eqlOp
  split
  · rename_i xs ys h1 h2
    replace h1 := of_asBytes h1
    replace h2 := of_asBytes h2
    split
    · rename_i h
      obtain ⟨h3, h4⟩ := h
      have hsz : ∀ w, (sizeOf e).run P w = .ok 1 w := fun w => by
        cases hq : P.info? e with
        | none => simp [hq] at hi
        | some j => simp [hq] at hi; simp [sizeOf, typeInfo, hq, hi]
      have hgd : (eqGuard .neq t x y a b).run P w = .ok () w := by rw [h1, h2]; exact run_eqGuard_agg (P := P) w .neq t x y _ _ hg
      have e1 : (binOp .neq t a b).run P w = .ok (.bool (!(xs == ys))) w := by
        rw [h1, h2, A8, A8, run_neq_struct]
        exact congrArg (fun r : Result Bool => r.andThen fun b w' => Result.ok (Value.bool (!b)) w') (run_equalIn_bytes (P := P) w 9998 t e n hu he hsz _ _ h3 h4)
      simp only [execOp, hv, hz, Sem.run_bind, hgd, Result.andThen_ok, e1, Sem.run_pure]
      simp
    · rfl
  · rfl
end
@[go_sem ↓ high] theorem eql_h32 (w : World) (ρ : Operand → Value) (dst : Option Tmp) (ty : TypeId) (pos : String) (after : Array Edge) (guard : Option (Nat × Bool)) (x y : Operand) (yt : TypeId) :
    (execOp ρ { dst, op := .binOp .eql 24 x y yt, type := ty, pos, after, guard }).run Try.prog w = eqlOp false 32 w (rawOp Try.prog ρ { dst, op := .binOp .eql 24 x y yt, type := ty, pos, after, guard } w) (ρ x) (ρ y) :=
  exec_eql w ρ dst ty pos after guard 24 5 32 x y yt Try.underlying24 Try.underlying5 (by kernel_rfl) (by kernel_rfl)
@[go_sem ↓ high] theorem neq_h32 (w : World) (ρ : Operand → Value) (dst : Option Tmp) (ty : TypeId) (pos : String) (after : Array Edge) (guard : Option (Nat × Bool)) (x y : Operand) (yt : TypeId) :
    (execOp ρ { dst, op := .binOp .neq 24 x y yt, type := ty, pos, after, guard }).run Try.prog w = eqlOp true 32 w (rawOp Try.prog ρ { dst, op := .binOp .neq 24 x y yt, type := ty, pos, after, guard } w) (ρ x) (ρ y) :=
  exec_neq w ρ dst ty pos after guard 24 5 32 x y yt Try.underlying24 Try.underlying5 (by kernel_rfl) (by kernel_rfl)
end Go.Proofs.Ytlegpkdighoflaa
namespace Go.Proofs.Ytlegpkdighoflaa
open Go Go.RowKit Sh
theorem By.build (w : World) (t : TypeId) (fr : Nat × Nat) (l : List UInt8) (hl : l.length ≤ 9223372036854775807) : By (w.alloc (.cells (l.map v8).toArray t fr)) 0 (w.heap.size + 1) (.slice (some ⟨w.heap.size, 0, none⟩) l.length l.length) l :=
  By.mk_ (Nat.le_refl _) (by simpa [maxLen] using hl) (.inr ⟨_, _, rfl, Nat.zero_le _, by omega, fun j u hj => by
    rw [Nat.zero_add, cell_of_row _ w.heap.size j (l.map v8).toArray t fr (heap_alloc_new w _)]
    simpa using hj⟩)
/-- A slice of byte slices that has just been made. -/
theorem Parts.build (w : World) (t : TypeId) (vs : List Value) (ls : List (List UInt8)) (hl : vs.length = ls.length) (hm : ls.length ≤ 9223372036854775807)
    (h : ∀ (i : Nat) (x : Value) (l : List UInt8), vs[i]? = some x → ls[i]? = some l → By w 0 w.heap.size x l) :
    Parts (w.alloc (.cells vs.toArray t)) (w.heap.size + 1) (.slice (some ⟨w.heap.size, 0, none⟩) vs.length vs.length) ls :=
  ⟨vs, ⟨_, _, rfl, Nat.le_refl _, by simp [maxLen]; omega, .inr ⟨_, _, rfl, Nat.zero_le _, by omega, fun j u hj => by rw [Nat.zero_add]; exact (Bk.new w t vs).at_ hj⟩⟩, hl,
    fun i x l hx hl => ((h i x l hx hl).below ((Below.refl _ _).alloc (Nat.le_refl _) _)).more (by omega)⟩
theorem Parts.one (w : World) (t : TypeId) (x : Value) (l : List UInt8) (h : By w 0 w.heap.size x l) : Parts (w.alloc (.cells #[x] t)) (w.heap.size + 1) (.slice (some ⟨w.heap.size, 0, none⟩) 1 1) [l] :=
  Parts.build w t [x] [l] rfl (by simp) fun i y m hy hm => by
    match i, hy, hm with
    | 0, hy, hm => simp at hy hm; subst hy; subst hm; exact h
    | i + 1, hy, hm => simp at hy

end Go.Proofs.Ytlegpkdighoflaa
namespace Go.Proofs.Ytlegpkdighoflaa
open Go

section
variable {P : Program} {ops : Array Oper} {md : Region.Mode} {S : World → Prop}
/-- In every world of S the operation leaves v in its temporary and the world as it is. -/
def YieldsS (P : Program) (ops : Array Oper) (S : World → Prop) (o : Oper) (v : Value) (a : Act) : Prop :=
  (Region.wanted o (yielded ops a.tmps) = true ∧ ∀ w, S w → o.quietAt P a (fun w' => w' = w) w v) ∨
  (Region.wanted o (yielded ops a.tmps) = false ∧ v = undef)
theorem YieldsS.op {i : Nat} {o : Oper} {v : Value} {a : Act} {K : Act → World → Prop} {Q : Exit → Act → World → Prop} {w : World} (hy : YieldsS P ops S o v a) (hi : ops[i]? = some o) (hS : S w) (h : K (a.put o.dst v) w) : wpOp P ops Q i K a w := by
  unfold wpOp
  simp only [hi]
  rcases hy with ⟨hw, hv⟩ | ⟨hw, rfl⟩
  · rw [if_pos hw]
    exact .inl (Oper.wp_of_quiet (C := fun w' => w' = w) (K := fun a' => K a' w) rfl (fun a' w' hw' hK => by rw [hw']; exact hK) ⟨v, fun w' hw' => by rw [hw']; exact hv w hS, h⟩)
  · rw [if_neg (by rw [hw]; simp)]
    exact h
theorem YieldsS.alike {o : Oper} {v : Value} {a a' : Act} (hy : YieldsS P ops S o v a) (he : execOp a'.eval o = execOp a.eval o) (hw : Region.wanted o (yielded ops a'.tmps) = Region.wanted o (yielded ops a.tmps)) : YieldsS P ops S o v a' := by
  unfold YieldsS Oper.quietAt at *
  rw [he, hw]
  exact hy
/-- Another operation, apart from it, comes ahead of it as well as behind it. -/
theorem yields_swap {j : Nat} {oi oj : Oper} {v : Value} {Q : Exit → Act → World → Prop} (hj : ops[j]? = some oj) (hap : oi.apart ops oj = true) (hsi : ∀ cs b, oi.op ≠ .select cs b) (hsj : ∀ cs b, oj.op ≠ .select cs b)
    (hQ : ∀ c a a' w, Q (.panic c) a w → Q (.panic c) a' w) {K : Act → World → Prop} {a : Act} {w : World} (hy : YieldsS P ops S oi v a) (h : wpOp P ops Q j K (a.put oi.dst v) w) :
    wpOp P ops Q j (fun a' w' => YieldsS P ops S oi v a' ∧ K (a'.put oi.dst v) w') a w := by
  obtain ⟨h1, h2, h3⟩ := Oper.apart_spec hap
  have stays : ∀ (b : Act) (u : Value), YieldsS P ops S oi v b → YieldsS P ops S oi v (b.put oj.dst u) := fun b u hb =>
    hb.alike (execOp_put oi hsi b oj.dst u h3) (wanted_put oi b oj.dst u h3)
  have comm : ∀ (b : Act) (u : Value) (w : World), K ((b.put oi.dst v).put oj.dst u) w → K ((b.put oj.dst u).put oi.dst v) w := fun b u w hk => by
    rw [← Act.put_comm b v u h2]; exact hk
  unfold wpOp at *
  simp only [hj] at *
  rw [wanted_put oj a oi.dst v h1] at h
  by_cases hw : Region.wanted oj (yielded ops a.tmps) = true
  · rw [if_pos hw] at h ⊢
    refine h.imp (fun h => ?_) (fun h => ⟨?_, h.2⟩)
    · unfold Oper.wp at *
      rw [execOp_put oj hsj a oi.dst v h1] at h
      generalize (execOp a.eval oj).run P w = r at *
      cases r with
      | ok n w' =>
        cases n <;> simp only [Oper.upon] at h ⊢
        case value u => exact ⟨stays a u hy, comm _ _ _ h⟩
        case skip => exact ⟨stays a _ hy, comm _ _ _ h⟩
        case defer d => exact ⟨stays _ _ (YieldsS.alike (a := a) hy rfl rfl), comm _ _ _ (by rw [← Act.put_defers]; exact h)⟩
        case enter f args =>
          refine Calls.mono h fun e w'' he => ?_
          cases e with
          | returned u => exact ⟨stays a u hy, comm _ _ _ he⟩
          | panicked c => exact hQ _ _ _ _ he
          | outgrown => exact he
        case row row args => exact Rows.mono h fun u w'' he => ⟨stays a u hy, comm _ _ _ he⟩
      | halt x w' =>
        cases x <;> simp only [Oper.upon] at h ⊢
        case panic u => exact hQ _ _ _ _ h
    · unfold Oper.asks at *
      rw [execOp_put oj hsj a oi.dst v h1] at h
      exact h.1
  · rw [if_neg hw] at h ⊢
    exact ⟨stays a _ hy, comm _ _ _ h⟩
theorem held_first {i : Nat} {oi : Oper} {v : Value} {Q : Exit → Act → World → Prop} (hi : ops[i]? = some oi) (hsel : ∀ (j : Nat) (o : Oper) cs b, ops[j]? = some o → o.op ≠ .select cs b) (hQ : ∀ c a a' w, Q (.panic c) a w → Q (.panic c) a' w) :
    ∀ (fuel : Nat) (listed : Array Bool) (a : Act) (w : World),
      (∀ j oj, ops[j]? = some oj → j ≠ i → listed.getD j true = false → (∀ e ∈ oj.after, Region.binds md e = true → e.on ≠ i) → oi.apart ops oj = true) →
      i ∈ Region.ready md ops listed → YieldsS P ops S oi v a → S w →
      wpAnyH P md ops Q S fuel (listed.setIfInBounds i true) (a.put oi.dst v) w → wpAnyH P md ops Q S (fuel + 1) listed a w
  | fuel, listed, a, w, hfree, hr, hy, hS, H => by
    refine ⟨fun h => (by rw [h] at hr; cases hr), fun j hj => ?_⟩
    by_cases hji : j = i
    · subst hji; exact hy.op hi hS ⟨hS, H⟩
    · cases fuel with
      | zero => have := ready_mono hj hji; rw [H.1] at this; cases this
      | succ fuel =>
        obtain ⟨hjun, oj, hoj, hall⟩ := mem_ready.1 hj
        have hun := (mem_ready.1 hr).1
        have hnot : ∀ e ∈ oj.after, Region.binds md e = true → e.on ≠ i := fun e he hb heq => by
          have h1 := hall e he hb
          rw [heq, getD_both hun] at h1
          cases h1
        refine wpOp_mono (fun a' w' h3 => ⟨h3.2.1, held_first hi hsel hQ fuel (listed.setIfInBounds j true) a' w' (fun k ok hk hki hkun hno => ?_) (ready_mono hr (Ne.symm hji)) h3.1 h3.2.1 ?_⟩) (yields_swap hoj (hfree j oj hoj hji hjun hnot) (fun cs b => hsel i oi cs b hi) (fun cs b => hsel j oj cs b hoj) hQ hy (H.2 j (ready_mono hj hji)))
        · refine hfree k ok hk hki ?_ hno
          by_cases hjk : j = k
          · subst hjk; exact hjun
          · rw [getD_set_ne true hjk] at hkun; exact hkun
        · rw [Array.setIfInBounds_comm _ _ hji]
          exact h3.2.2
/-- Operations that leave every world of S as it is, each with a value of its own. -/
def wpSame (P : Program) (ops : Array Oper) (S : World → Prop) (L : Act → Prop) : List Oper → Act → Prop
  | [], a => L a
  | o :: rest, a => ∃ v, YieldsS P ops S o v a ∧ wpSame P ops S L rest (a.put o.dst v)
def apartDst (n : Nat) : List Oper → Bool
  | [] => true
  | o :: rest => (match o.dst with | some d => decide (d < n) && rest.all (fun p => p.dst != some d) | none => false) && apartDst n rest
theorem put_size (a : Act) (d : Option Tmp) (v : Value) : (a.put d v).tmps.size = a.tmps.size := by cases d <;> simp [Act.put]
/-- A slot that none of these operations writes. -/
theorem quiet_keeps {C : World → Prop} {d : Tmp} {A : Act} : ∀ (l : List Oper) (a : Act), l.all (fun p => p.dst != some d) = true → wpQuiet P ops C (fun a' => a' = A) l a → A.tmps.getD d undef = a.tmps.getD d undef
  | [], a, _, h => by rw [show a = A from h]
  | o :: l, a, hl, h => by
    simp only [List.all_cons, Bool.and_eq_true] at hl
    have hput : ∀ v, (a.put o.dst v).tmps.getD d undef = a.tmps.getD d undef := fun v => by
      cases ho : o.dst with
      | none => rfl
      | some e =>
        have hne : e ≠ d := by intro h; subst h; simp [ho] at hl
        simp [Act.put, hne]
    unfold wpQuiet at h
    split at h
    · obtain ⟨v, _, h⟩ := h
      rw [quiet_keeps l _ hl.2 h, hput]
    · rw [quiet_keeps l _ hl.2 h, hput]
/-- One walk at whatever world of S, the frame at its end being the same: then each value is the same, too. -/
theorem same_of_quiet {A : Act} (W0 : World) (h0 : S W0) : ∀ (l : List Oper) (a : Act), apartDst a.tmps.size l = true → (∀ W, S W → wpQuiet P ops (fun w' => w' = W) (fun a' => a' = A) l a) → wpSame P ops S (fun a' => a' = A) l a
  | [], a, _, h => h W0 h0
  | o :: l, a, hl, h => by
    simp only [apartDst, Bool.and_eq_true] at hl
    obtain ⟨ho, hl⟩ := hl
    cases hd : o.dst with
    | none => rw [hd] at ho; cases ho
    | some d =>
      rw [hd] at ho
      simp only [Bool.and_eq_true, decide_eq_true_eq] at ho
      by_cases hw : Region.wanted o (yielded ops a.tmps) = true
      · have key : ∀ W, S W → o.quietAt P a (fun w' => w' = W) W (A.tmps.getD d undef) ∧ wpQuiet P ops (fun w' => w' = W) (fun a' => a' = A) l (a.put o.dst (A.tmps.getD d undef)) := fun W hW => by
          have h1 := h W hW
          unfold wpQuiet at h1
          rw [if_pos hw] at h1
          obtain ⟨v, hv, h2⟩ := h1
          have e := quiet_keeps l _ ho.2 h2
          rw [hd] at e
          have e2 : (a.put (some d) v).tmps.getD d undef = v := by simp [Act.put, ho.1]
          rw [e2] at e
          rw [e]
          exact ⟨hv W rfl, h2⟩
        exact ⟨_, .inl ⟨hw, fun W hW => (key W hW).1⟩, same_of_quiet W0 h0 l _ (by rw [put_size]; exact hl) fun W hW => (key W hW).2⟩
      · refine ⟨undef, .inr ⟨by simpa using hw, rfl⟩, same_of_quiet W0 h0 l _ (by rw [put_size]; exact hl) fun W hW => ?_⟩
        have h1 := h W hW
        unfold wpQuiet at h1
        rw [if_neg hw] at h1
        exact h1
theorem wpSame_mono {L L' : Act → Prop} (hL : ∀ a, L a → L' a) : ∀ (l : List Oper) (a : Act), wpSame P ops S L l a → wpSame P ops S L' l a
  | [], a, h => hL a h
  | _ :: l, _, ⟨v, hy, h⟩ => ⟨v, hy, wpSame_mono hL l _ h⟩
/-- The operations one behind the other, S being shown behind each. -/
def wpTail (P : Program) (S : World → Prop) (Q : Act → World → Prop) : List Oper → Act → World → Prop
  | [], a, w => Q a w
  | o :: rest, a, w => Oper.wp P o a w (fun a' w' => S w' ∧ wpTail P S Q rest a' w') (fun _ _ _ => False)
theorem wpTail_nil {Q : Act → World → Prop} {a : Act} {w : World} (h : Q a w) : wpTail P S Q [] a w := h
theorem wp_mono2 {o : Oper} {a : Act} {w : World} {K K' : Act → World → Prop} {Q Q' : Exit → Act → World → Prop} (hK : ∀ a w, K a w → K' a w) (hQ : ∀ e a w, e ≠ .normal → Q e a w → Q' e a w) (h : o.wp P a w K Q) : o.wp P a w K' Q' := by
  unfold Oper.wp at *
  generalize (execOp a.eval o).run P w = r at *
  cases r with
  | ok n w' =>
    cases n <;> simp only [Oper.upon] at h ⊢
    case value => exact hK _ _ h
    case skip => exact hK _ _ h
    case defer => exact hK _ _ h
    case enter f args =>
      refine Calls.mono h fun e w'' he => ?_
      cases e with
      | returned v => exact hK _ _ he
      | panicked c => exact hQ _ _ _ (by intro h; cases h) he
      | outgrown => obtain ⟨a, w, h⟩ := he; exact ⟨a, w, hQ _ _ _ (by intro h; cases h) h⟩
    case row => exact Rows.mono h fun _ _ he => hK _ _ he
  | halt x w' =>
    cases x <;> simp only [Oper.upon] at h ⊢
    case panic => exact hQ _ _ _ (by intro h; cases h) h
theorem wpTail_step {Q : Act → World → Prop} {o : Oper} {rest : List Oper} {a : Act} {w : World} (hg : o.guard = none)
    (h : ∀ Q' : Exit → Act → World → Prop, (∀ a' w', S w' → wpTail P S Q rest a' w' → Q' .normal a' w') → wpList P #[o] Q' [o] a w) : wpTail P S Q (o :: rest) a w := by
  have h1 := h (fun e a' w' => e = .normal ∧ S w' ∧ wpTail P S Q rest a' w') (fun a' w' h1 h2 => ⟨rfl, h1, h2⟩)
  unfold wpList at h1
  rw [if_pos (by simp [Region.wanted, hg])] at h1
  rcases h1 with h1 | ⟨_, a, w, h2, _⟩
  · exact wp_mono2 (fun a' w' h2 => h2.2) (fun e a' w' hne h2 => hne h2.1) h1
  · cases h2
def firstB (md : Region.Mode) (ops : Array Oper) : Array Bool → List Nat → Array Bool × Bool
  | listed, [] => (listed, true)
  | listed, i :: is => ((firstB md ops (listed.setIfInBounds i true) is).1, (Region.ready md ops listed).contains i && Region.free md ops listed i && (firstB md ops (listed.setIfInBounds i true) is).2)
def chainB (md : Region.Mode) (ops : Array Oper) : Array Bool → List Nat → Bool
  | listed, [] => Region.ready md ops listed == []
  | listed, i :: is => (Region.ready md ops listed == [i]) && (match ops[i]? with | some o => o.guard == none | none => false) && chainB md ops (listed.setIfInBounds i true) is
def pick (l : List Oper) : List Nat → List Oper
  | [] => []
  | i :: is => match l[i]? with | some o => o :: pick l is | none => []
variable {Q : Exit → Act → World → Prop} {l : List Oper}
theorem held_of_tail : ∀ (ts : List Nat) (lt : List Oper) (listed : Array Bool) (a : Act) (w : World), pick l ts = lt → lt.length = ts.length → chainB md l.toArray listed ts = true → wpTail P S (fun a w => Q .normal a w) lt a w → wpAnyH P md l.toArray Q S ts.length listed a w
  | [], lt, listed, a, w, hp, _, hB, h => by
    subst hp
    exact ⟨by simpa [chainB] using hB, h⟩
  | i :: is, lt, listed, a, w, hp, hl, hB, h => by
    simp only [chainB, Bool.and_eq_true, beq_iff_eq] at hB
    obtain ⟨⟨hr, hg⟩, hB⟩ := hB
    simp only [pick] at hp
    cases hi : l[i]? with
    | none => rw [hi] at hp; subst hp; simp at hl
    | some o =>
      rw [hi] at hp
      subst hp
      refine ⟨fun h0 => (by rw [hr] at h0; cases h0), fun j hj => ?_⟩
      rw [hr] at hj
      obtain rfl : j = i := by simpa using hj
      have hoi : l.toArray[j]? = some o := by simpa using hi
      have hgo : o.guard = none := by rw [hoi] at hg; simpa using hg
      unfold wpOp
      simp only [hoi]
      rw [if_pos (by simp [Region.wanted, hgo])]
      refine .inl (wp_mono2 (fun a' w' h2 => ⟨h2.1, held_of_tail is _ _ a' w' rfl (by simpa using hl) hB h2.2⟩) (fun _ _ _ _ h => h.elim) h)
theorem held_of_first : ∀ (qs : List Nat) (lq : List Oper) (fuel : Nat) (listed : Array Bool) (a : Act) (w : World), pick l qs = lq → lq.length = qs.length → Region.noSelect l.toArray = true → (firstB md l.toArray listed qs).2 = true → S w →
    (∀ c a a' w, Q (.panic c) a w → Q (.panic c) a' w) →
    wpSame P l.toArray S (fun a' => wpAnyH P md l.toArray Q S fuel (firstB md l.toArray listed qs).1 a' w) lq a → wpAnyH P md l.toArray Q S (fuel + qs.length) listed a w
  | [], lq, fuel, listed, a, w, hp, _, _, hB, hS, _, h => by subst hp; exact h
  | i :: is, lq, fuel, listed, a, w, hp, hl, hs, hB, hS, hQ, h => by
    simp only [firstB, Bool.and_eq_true] at hB
    obtain ⟨⟨hr, hf⟩, hB⟩ := hB
    simp only [pick] at hp
    cases hi : l[i]? with
    | none => rw [hi] at hp; subst hp; simp at hl
    | some o =>
      rw [hi] at hp
      subst hp
      obtain ⟨v, hy, h⟩ := h
      have hoi : l.toArray[i]? = some o := by simpa using hi
      exact held_first hoi (Region.noSelect_spec hs) hQ _ _ _ _ (Region.free_spec hoi hf) (by simpa using hr) hy hS (held_of_first is _ fuel _ _ w rfl (by simpa using hl) hs hB hS hQ h)
/-- What stands behind a region where a panic is out of the question. -/
def Calm (Q : Exit → Act → World → Prop) : Exit → Act → World → Prop
  | .panic _, _, _ => False
  | e, a, w => Q e a w
theorem calm_imp {Q : Exit → Act → World → Prop} (e : Exit) (a : Act) (w : World) (h : Calm Q e a w) : Q e a w := by
  cases e <;> first | exact h | exact h.elim
/-- THE LAW. qs: what is taken first, in this order; ts: the rest, which comes in no other order than this. The walk of the first: at whatever world of S; its frame at the end is A. -/
theorem wp_hoist (S : World → Prop) (qs ts : List Nat) {id : Nat} {a : Act} {w : World} {lq lt : List Oper} (hm : P.follows .mixedOrders = true) (hs : Region.noSelect l.toArray = true)
    (h1 : (firstB .any l.toArray (Array.replicate l.length false) qs).2 = true) (h2 : chainB .any l.toArray (firstB .any l.toArray (Array.replicate l.length false) qs).1 ts = true)
    (hq : pick l qs = lq) (ht : pick l ts = lt) (hn : (lq.length == qs.length && lt.length == ts.length && (qs.length + ts.length == l.length)) = true) (hd : apartDst a.tmps.size lq = true) (hS : S w.drew)
    (A : Act) (h : ∀ W, S W → wpQuiet P l.toArray (fun w' => w' = W) (fun a' => a' = A) lq a) (ht : S w.drew → wpTail P S (fun a w => Q .normal a w) lt A w.drew) : (Code.region id l.toArray true).wp P Q a w := by
  simp only [Bool.and_eq_true, beq_iff_eq] at hn
  obtain ⟨⟨n1, n2⟩, n3⟩ := hn
  refine Code.wp_mono calm_imp (wp_region_held (S := S) hm ?_)
  have e : l.toArray.size = ts.length + qs.length := by simp; omega
  have e2 : Array.replicate l.toArray.size false = Array.replicate l.length false := by simp
  rw [e2, e]
  exact held_of_first qs lq ts.length _ a _ hq n1 hs h1 hS (fun _ _ _ _ h => h) (wpSame_mono (fun a' ha => by subst ha; exact held_of_tail ts lt _ _ _ (by assumption) n2 h2 (ht hS)) lq a (same_of_quiet _ hS lq a hd h))
end
end Go.Proofs.Ytlegpkdighoflaa
namespace Go.Proofs.Ytlegpkdighoflaa
open Go

section
variable {P : Program} {l : List Oper} {Q : Exit → Act → World → Prop} {S : World → Prop} {a : Act} {w : World}
def doneAt (n : Nat) (done : List Nat) : Array Bool := done.foldl (fun m i => m.setIfInBounds i true) (Array.replicate n false)
def HeldAt (P : Program) (l : List Oper) (Q : Exit → Act → World → Prop) (S : World → Prop) (done : List Nat) (a : Act) (w : World) : Prop :=
  wpAnyH P .any l.toArray (Calm Q) S (l.length - done.length) (doneAt l.length done) a w
theorem held_begin (S : World → Prop) {id : Nat} (hm : P.follows .mixedOrders = true) (h : HeldAt P l Q S [] a w.drew) : (Code.region id l.toArray true).wp P Q a w := by
  refine Code.wp_mono calm_imp (wp_region_held (S := S) hm ?_)
  have e : l.toArray.size = l.length := by simp
  rw [e]
  exact h
theorem firstB_done : ∀ (qs : List Nat) (listed : Array Bool), (firstB .any l.toArray listed qs).1 = qs.foldl (fun m i => m.setIfInBounds i true) listed
  | [], _ => rfl
  | _ :: qs, _ => by simp only [firstB, List.foldl_cons]; exact firstB_done qs _
/-- What only reads, first. -/
theorem held_quiet {done : List Nat} (qs : List Nat) {lq : List Oper} (hs : Region.noSelect l.toArray = true) (h1 : (firstB .any l.toArray (doneAt l.length done) qs).2 = true)
    (hq : pick l qs = lq) (hn : (lq.length == qs.length && decide (done.length + qs.length ≤ l.length)) = true) (hd : apartDst a.tmps.size lq = true) (hS : S w)
    (A : Act) (h : ∀ W, S W → wpQuiet P l.toArray (fun w' => w' = W) (fun a' => a' = A) lq a) (hr : HeldAt P l Q S (done ++ qs) A w) : HeldAt P l Q S done a w := by
  simp only [Bool.and_eq_true, beq_iff_eq, decide_eq_true_eq] at hn
  unfold HeldAt at *
  rw [show l.length - done.length = (l.length - (done ++ qs).length) + qs.length by simp; omega]
  refine held_of_first qs lq _ _ a w hq hn.1 hs h1 hS (fun _ _ _ _ h => h) (wpSame_mono (fun a' ha => ?_) lq a (same_of_quiet w hS lq a hd h))
  subst ha
  rw [firstB_done]
  unfold doneAt at hr ⊢
  rw [List.foldl_append] at hr
  exact hr
def readyIs (l : List Oper) (done rs : List Nat) : Bool := Region.ready .any l.toArray (doneAt l.length done) == rs && decide (done.length < l.length)
def bare (o : Oper) : Oper := { o with guard := none }
theorem bare_wp {o : Oper} {K : Act → World → Prop} {Q : Exit → Act → World → Prop} (h : (bare o).wp P a w K Q) : o.wp P a w K Q := h
theorem held_op {done : List Nat} {i : Nat} {o : Oper} (hi : l[i]? = some o) (hg : Region.wanted o (yielded l.toArray a.tmps) = true)
    (h : ∀ Q' : Exit → Act → World → Prop, (∀ a' w', S w' → HeldAt P l Q S (done ++ [i]) a' w' → Q' .normal a' w') → wpList P #[bare o] Q' [bare o] a w) (hlt : done.length < l.length) :
    wpOp P l.toArray (Calm Q) i (fun a' w' => S w' ∧ wpAnyH P .any l.toArray (Calm Q) S (l.length - done.length - 1) ((doneAt l.length done).setIfInBounds i true) a' w') a w := by
  have h1 := h (fun e a' w' => e = .normal ∧ S w' ∧ HeldAt P l Q S (done ++ [i]) a' w') (fun a' w' h1 h2 => ⟨rfl, h1, h2⟩)
  unfold wpList at h1
  rw [if_pos (by simp [Region.wanted, bare])] at h1
  unfold wpOp
  have hoi : l.toArray[i]? = some o := by simpa using hi
  simp only [hoi]
  rw [if_pos hg]
  rcases h1 with h1 | ⟨_, a, w, h2, _⟩
  · refine .inl (wp_mono2 (fun a' w' h2 => ⟨h2.2.1, ?_⟩) (fun e a' w' hne h2 => (hne h2.1).elim) (bare_wp h1))
    have h3 := h2.2.2
    unfold HeldAt doneAt at h3
    rw [List.foldl_append] at h3
    rw [show l.length - done.length - 1 = l.length - (done ++ [i]).length by simp; omega]
    exact h3
  · cases h2
theorem held_ready {done rs : List Nat} (hr : readyIs l done rs = true) (hne : rs ≠ [])
    (h : ∀ i ∈ rs, wpOp P l.toArray (Calm Q) i (fun a' w' => S w' ∧ wpAnyH P .any l.toArray (Calm Q) S (l.length - done.length - 1) ((doneAt l.length done).setIfInBounds i true) a' w') a w) : HeldAt P l Q S done a w := by
  simp only [readyIs, Bool.and_eq_true, beq_iff_eq, decide_eq_true_eq] at hr
  unfold HeldAt
  rw [show l.length - done.length = (l.length - done.length - 1) + 1 by omega]
  exact wpAnyH_all hr.1 hne h
/-- One alone may come up. -/
theorem held_one {done : List Nat} (i : Nat) {o : Oper} (hr : readyIs l done [i] = true) (hi : l[i]? = some o) (hg : Region.wanted o (yielded l.toArray a.tmps) = true)
    (h : ∀ Q' : Exit → Act → World → Prop, (∀ a' w', S w' → HeldAt P l Q S (done ++ [i]) a' w' → Q' .normal a' w') → wpList P #[bare o] Q' [bare o] a w) : HeldAt P l Q S done a w := by
  have hlt : done.length < l.length := by simp only [readyIs, Bool.and_eq_true, decide_eq_true_eq] at hr; exact hr.2
  refine held_ready hr (by simp) fun j hj => ?_
  obtain rfl : j = i := by simpa using hj
  exact held_op hi hg h hlt
/-- One of two. -/
theorem held_two {done : List Nat} (i j : Nat) {o p : Oper} (hr : readyIs l done [i, j] = true) (hi : l[i]? = some o) (hj : l[j]? = some p) (hg : Region.wanted o (yielded l.toArray a.tmps) = true) (hp : Region.wanted p (yielded l.toArray a.tmps) = true)
    (h : ∀ Q' : Exit → Act → World → Prop, (∀ a' w', S w' → HeldAt P l Q S (done ++ [i]) a' w' → Q' .normal a' w') → wpList P #[bare o] Q' [bare o] a w)
    (h2 : ∀ Q' : Exit → Act → World → Prop, (∀ a' w', S w' → HeldAt P l Q S (done ++ [j]) a' w' → Q' .normal a' w') → wpList P #[bare p] Q' [bare p] a w) : HeldAt P l Q S done a w := by
  have hlt : done.length < l.length := by simp only [readyIs, Bool.and_eq_true, decide_eq_true_eq] at hr; exact hr.2
  refine held_ready hr (by simp) fun k hk => ?_
  rcases List.mem_cons.1 hk with rfl | hk
  · exact held_op hi hg h hlt
  · obtain rfl : k = j := by simpa using hk
    exact held_op hj hp h2 hlt
/-- All have come up. -/
theorem held_end {done : List Nat} (hr : (Region.ready .any l.toArray (doneAt l.length done) == []) = true) (h : Q .normal a w) : HeldAt P l Q S done a w := by
  unfold HeldAt
  exact wpAnyH_done (Q := Calm Q) (by simpa using hr) h _
/-- The rest comes in one order alone. -/
theorem held_chain {done : List Nat} (ts : List Nat) {lt : List Oper} (h2 : chainB .any l.toArray (doneAt l.length done) ts = true) (ht : pick l ts = lt) (hn : (lt.length == ts.length && (done.length + ts.length == l.length)) = true)
    (h : wpTail P S (fun a w => Q .normal a w) lt a w) : HeldAt P l Q S done a w := by
  simp only [Bool.and_eq_true, beq_iff_eq] at hn
  unfold HeldAt
  rw [show l.length - done.length = ts.length by omega]
  exact held_of_tail (Q := Calm Q) ts lt _ a w ht hn.1 h2 h
/-- What a piece of code leaves, said once for all its ways. -/
theorem piece {c : Code} (R : Act → World → Prop) (h1 : c.wp P (fun e a' w' => e = .normal ∧ R a' w') a w) (h2 : ∀ a' w', R a' w' → Q .normal a' w') : c.wp P Q a w :=
  Code.wp_mono (fun e a' w' h => by obtain ⟨rfl, h⟩ := h; exact h2 a' w' h) h1
end
end Go.Proofs.Ytlegpkdighoflaa
namespace Go.Proofs.Ytlegpkdighoflaa
open Go
section
variable {P : Program} {l : List Oper} {Q : Exit → Act → World → Prop} {S : World → Prop}
theorem count_set : ∀ (L : List Bool) (i : Nat), L[i]? = some false → L.count false = (L.set i true).count false + 1
  | [], i, h => by simp at h
  | b :: L, 0, h => by simp at h; subst h; simp
  | b :: L, i + 1, h => by
    have := count_set L i (by simpa using h)
    simp only [List.set_cons_succ, List.count_cons, this]
    omega
/-- Each operation waits for earlier ones alone. -/
def inOrder (l : List Oper) : Bool := l.zipIdx.all fun (o, i) => o.after.all fun e => !Region.binds .any e || decide (e.on < i)
theorem inOrder_at {i : Nat} {o : Oper} (h : inOrder l = true) (hi : l[i]? = some o) : ∀ e ∈ o.after, Region.binds .any e = true → e.on < i := by
  intro e he hb
  have h1 := List.all_eq_true.1 h (o, i) (by rw [List.mem_zipIdx_iff_getElem?]; exact hi)
  have h2 := Array.all_eq_true_iff_forall_mem.1 h1 e he
  simpa [hb] using h2
theorem listed_all {listed : Array Bool} (ho : inOrder l = true) (hs : listed.size = l.length) (hr : Region.ready .any l.toArray listed = []) : ∀ i, i < l.length → listed.getD i false = true := by
  intro i
  induction i using Nat.strongRecOn with
  | _ i ih =>
    intro hi
    apply Classical.byContradiction
    intro hn
    have hmem : i ∈ Region.ready .any l.toArray listed := by
      refine mem_ready.2 ⟨?_, l[i], by simp [hi], fun e he hb => ?_⟩
      · have : i < listed.size := by omega
        simpa [this] using hn
      · exact ih e.on (inOrder_at ho (by simp [hi]) e he hb) (by have := inOrder_at ho (i := i) (o := l[i]) (by simp [hi]) e he hb; omega)
    rw [hr] at hmem
    cases hmem
theorem held_inv (Inv : Array Bool → Act → World → Prop) (ho : inOrder l = true) (hS : ∀ listed a w, Inv listed a w → S w)
    (hstep : ∀ (listed : Array Bool) (a : Act) (w : World) (i : Nat) (o : Oper), Inv listed a w → listed.size = l.length → l[i]? = some o → listed.getD i true = false → (∀ e ∈ o.after, Region.binds .any e = true → listed.getD e.on false = true) →
      ∀ K : Act → World → Prop, (∀ a' w', Inv (listed.setIfInBounds i true) a' w' → K a' w') → wpOp P l.toArray (Calm Q) i K a w)
    (hend : ∀ (listed : Array Bool) (a : Act) (w : World), Inv listed a w → (∀ i, i < l.length → listed.getD i false = true) → Q .normal a w) :
    ∀ (fuel : Nat) (listed : Array Bool) (a : Act) (w : World), listed.size = l.length → listed.toList.count false = fuel → Inv listed a w → wpAnyH P .any l.toArray (Calm Q) S fuel listed a w
  | 0, listed, a, w, hs, hc, hI => by
    have hall : ∀ i, i < l.length → listed.getD i false = true := by
      intro i hi
      have hil : i < listed.size := by omega
      cases hb : listed[i] with
      | true => simp [hil, hb]
      | false =>
        have : false ∈ listed.toList := by
          have := Array.getElem_mem (xs := listed) hil
          rw [hb] at this
          simpa using this
        have := List.count_pos_iff.2 this
        omega
    refine ⟨?_, hend listed a w hI hall⟩
    apply List.eq_nil_iff_forall_not_mem.2
    intro i hi
    obtain ⟨h1, o, h2, _⟩ := mem_ready.1 hi
    have hil : i < l.length := by
      have := (Array.getElem?_eq_some_iff.1 h2).1
      simpa using this
    have h3 := hall i hil
    have : i < listed.size := by omega
    simp [this] at h1 h3
    rw [h1] at h3; cases h3
  | fuel + 1, listed, a, w, hs, hc, hI => by
    refine ⟨fun hr => hend listed a w hI (listed_all ho hs hr), fun i hi => ?_⟩
    obtain ⟨h1, o, h2, h3⟩ := mem_ready.1 hi
    have hoi : l[i]? = some o := by simpa using h2
    refine hstep listed a w i o hI hs hoi h1 h3 _ fun a' w' hI' => ⟨hS _ _ _ hI', held_inv Inv ho hS hstep hend fuel _ a' w' (by simpa using hs) ?_ hI'⟩
    have hil : i < listed.size := by
      have := (Array.getElem?_eq_some_iff.1 h2).1
      simp at this; omega
    have h4 : listed.toList[i]? = some false := by
      have : listed[i] = false := by simpa [hil] using h1
      simp [hil, this]
    have := count_set listed.toList i h4
    simp only [Array.toList_setIfInBounds]
    omega
theorem held_of_inv {done : List Nat} {a : Act} {w : World} (Inv : Array Bool → Act → World → Prop) (ho : inOrder l = true) (hS : ∀ listed a w, Inv listed a w → S w)
    (hstep : ∀ (listed : Array Bool) (a : Act) (w : World) (i : Nat) (o : Oper), Inv listed a w → listed.size = l.length → l[i]? = some o → listed.getD i true = false → (∀ e ∈ o.after, Region.binds .any e = true → listed.getD e.on false = true) →
      ∀ K : Act → World → Prop, (∀ a' w', Inv (listed.setIfInBounds i true) a' w' → K a' w') → wpOp P l.toArray (Calm Q) i K a w)
    (hend : ∀ (listed : Array Bool) (a : Act) (w : World), Inv listed a w → (∀ i, i < l.length → listed.getD i false = true) → Q .normal a w)
    (hc : ((doneAt l.length done).toList.count false == l.length - done.length && (doneAt l.length done).size == l.length) = true) (hI : Inv (doneAt l.length done) a w) : HeldAt P l Q S done a w := by
  simp only [Bool.and_eq_true, beq_iff_eq] at hc
  exact held_inv Inv ho hS hstep hend _ _ a w hc.2 hc.1 hI
/-- One operation of it. -/
theorem inv_op {i : Nat} {o : Oper} {a : Act} {w : World} {K : Act → World → Prop} (hi : l[i]? = some o) (hg : o.guard = none)
    (h : ∀ Q' : Exit → Act → World → Prop, (∀ a' w', K a' w' → Q' .normal a' w') → wpList P #[o] Q' [o] a w) : wpOp P l.toArray (Calm Q) i K a w := by
  have h1 := h (fun e a' w' => e = .normal ∧ K a' w') (fun a' w' h1 => ⟨rfl, h1⟩)
  unfold wpList at h1
  rw [if_pos (by simp [Region.wanted, hg])] at h1
  unfold wpOp
  have hoi : l.toArray[i]? = some o := by simpa using hi
  simp only [hoi]
  rw [if_pos (by simp [Region.wanted, hg])]
  rcases h1 with h1 | ⟨_, a, w, h2, _⟩
  · exact .inl (wp_mono2 (fun a' w' h2 => h2.2) (fun e a' w' hne h2 => (hne h2.1).elim) h1)
  · cases h2
end
end Go.Proofs.Ytlegpkdighoflaa
namespace Go.Proofs.Ytlegpkdighoflaa
open Go Go.RowKit
def oneRes (tmps : Array Value) : ResultVar → Sem Value
  | .tmp t => pure (tmps.getD t undef)
  | .cell a t => do loadVar t (← asAddr (tmps.getD a undef))
def ResAt (P : Program) (tmps : Array Value) (w : World) (r : ResultVar) (v : Value) : Prop := (oneRes tmps r).run P w = .ok v w
theorem results_one (fn : Func) (tmps : Array Value) : results fn tmps = (do let vs ← fn.results.mapM (oneRes tmps); pure (if h : vs.size = 1 then vs[0] else .tuple vs)) := by
  have e : oneRes tmps = (fun
    | .tmp t => pure (tmps.getD t undef)
    | .cell a t => do loadVar t (← asAddr (tmps.getD a undef))) := by funext r; cases r <;> rfl
  rw [e]
  rfl
section
variable {P : Program} {fn : Func} {tmps : Array Value} {w : World}
theorem ResAt.row {p : Tmp} {ty : TypeId} {g : Nat} {t : TypeId} {cs : List Value} (hg : Bk w g t cs) (hp : tmps.getD p undef = .pointer (some ⟨g, 0, none⟩)) (d : TypeDesc)
    (hu : P.underlying ty = some d) (hd : (match d with | .struct _ | .array _ _ => true | _ => false) = true) (hi : (P.info? ty).map (·.size) = some cs.length) : ResAt P tmps w (.cell p ty) (.agg cs.toArray) := by
  unfold ResAt oneRes
  simp only [hp]
  simp [asAddr, run_loadVar_row w g t ty cs.toArray (0, 0) d hg hu hd (by simpa using hi)]
theorem ResAt.tmp {t : Tmp} {v : Value} (h : tmps.getD t undef = v) : ResAt P tmps w (.tmp t) v := by subst h; rfl
theorem results_two {r1 r2 : ResultVar} {v1 v2 : Value} (h : fn.results = #[r1, r2]) (h1 : ResAt P tmps w r1 v1) (h2 : ResAt P tmps w r2 v2) : (results fn tmps).run P w = .ok (.tuple #[v1, v2]) w := by
  unfold ResAt at h1 h2
  rw [results_one, h]
  simp [h1, h2]
theorem results_three {r1 r2 r3 : ResultVar} {v1 v2 v3 : Value} (h : fn.results = #[r1, r2, r3]) (h1 : ResAt P tmps w r1 v1) (h2 : ResAt P tmps w r2 v2) (h3 : ResAt P tmps w r3 v3) : (results fn tmps).run P w = .ok (.tuple #[v1, v2, v3]) w := by
  unfold ResAt at h1 h2 h3
  rw [results_one, h]
  simp [h1, h2, h3]
end
end Go.Proofs.Ytlegpkdighoflaa
namespace Go.Proofs.Ytlegpkdighoflaa
open Go
def minI (x y : Int) : Int := if y < x then y else x
@[go_sem ↓ high] theorem run_minI {P : Program} {w : World} (ts : Array TypeId) (t : TypeId) (k k' : IntKind) (x y : Int) : (Builtin.min_ ts t #[.int k x, .int k' y]).run P w = .ok (.int k (minI x y)) w := run_min_int2 (P := P) w ts t k k' x y
theorem minI_eq {x y : Int} {n : Int} (h : n = if y < x then y else x) : minI x y = n := h.symm
end Go.Proofs.Ytlegpkdighoflaa
namespace Go.Proofs.Ytlegpkdighoflaa
open Go Go.RowKit
/-- w with more blocks behind it, at another count of draws. -/
structure More where
  objs : Array Obj
  at_ : Nat
instance : Inhabited More := ⟨⟨#[], 0⟩⟩
def ext (w : World) (p : More) : World := { w with heap := w.heap ++ p.objs, drawn := p.at_ }
theorem below_ext (w : World) (p : More) : Below w.heap.size w (ext w p) :=
  ⟨rfl, rfl, rfl, by simp [ext], fun k hk => by simp [ext, Array.getElem?_append, hk]⟩
theorem ext_of_below {w w' : World} (h : Below w.heap.size w w') : ∃ p, w' = ext w p := by
  refine ⟨⟨(w'.heap.toList.drop w.heap.size).toArray, w'.drawn⟩, ?_⟩
  obtain ⟨hp, tp, dr, os, ou⟩ := w
  obtain ⟨hp', tp', dr', os', ou'⟩ := w'
  obtain ⟨h1, h2, h3, h4, h5⟩ := h
  simp only at h1 h2 h3 h4 h5
  subst h1; subst h2; subst h3
  unfold ext
  congr 1
  apply Array.ext_getElem?
  intro i
  rcases Nat.lt_or_ge i hp.size with hlt | hge
  · rw [h5 i hlt, Array.getElem?_append_left hlt]
  · rw [Array.getElem?_append_right hge]
    have e : hp.size + (i - hp.size) = i := by omega
    simp [e]
section
variable {w : World} {p : More} {a : Addr} {n : Nat}
@[go_sem] theorem ext_drewN (k : Nat) : ext (w.drewN k) p = ext w p := rfl
@[go_sem] theorem ext_drew : ext w.drew p = ext w p := rfl
@[go_sem] theorem ext_cell (h : a.block < w.heap.size) : (ext w p).cell? a = w.cell? a := (below_ext w p).cell h
@[go_sem] theorem ext_frozen (h : a.block < w.heap.size) : (ext w p).frozen? a = w.frozen? a := (below_ext w p).frozen h
@[go_sem] theorem ext_row (h : a.block < w.heap.size) : rowAt (ext w p) a n = rowAt w a n := rowAt_below (below_ext w p) h
@[go_sem] theorem ext_can (h : a.block < w.heap.size) : canAt (ext w p) a n = canAt w a n :=
  canAt_keep (fun q hq => (below_ext w p).cell (by omega)) (fun q hq => (below_ext w p).frozen (by omega))
end
section
variable {P : Program} {f : FuncId} {args : Array Value} {w : World} {p : More} {v : Value}
theorem quiet_ext (h : ∀ W : World, Below w.heap.size w W → Calls P f args W fun e w' => e = .returned v ∧ Below W.heap.size W w') :
    Calls P f args (ext w p) fun e w'' => e = .returned v ∧ ∃ q, w'' = ext w q :=
  (h _ (below_ext w p)).mono fun _ _ ⟨he, hb⟩ => ⟨he, ext_of_below ((below_ext w p).trans (hb.mono (below_ext w p).size))⟩
theorem quiet_ext_same (h : ∀ W : World, Calls P f args W fun e w' => e = .returned v ∧ w' = W) :
    Calls P f args (ext w p) fun e w'' => e = .returned v ∧ ∃ q, w'' = ext w q :=
  (h _).mono fun _ _ ⟨he, hm⟩ => ⟨he, p, hm⟩
theorem wp_ext {id : Nat} {Q : Exit → Act → World → Prop} {a : Act} {l : List Oper} (hm : P.follows .mixedOrders = true) (hB : Region.lexB .any l.toArray = true)
    (h : wpQuiet P l.toArray (fun w' => ∃ p, w' = ext w p) (fun a' => ∀ w', (∃ p, w' = ext w p) → Q .normal a' w') l a) : (Code.region id l.toArray true).wp P Q a w :=
  wp_region_quiet (C := fun w' => ∃ p, w' = ext w p) hm hB (ext_of_below ((Below.refl _ _).drew)) (by simpa using h)
theorem wp_ext_tail {id : Nat} {Q : Exit → Act → World → Prop} {a : Act} {l : List Oper} (n : Nat) (hm : P.follows .mixedOrders = true) (hB : Region.lexTailB .any l.toArray n = true)
    (h : wpQuiet P l.toArray (fun w' => ∃ p, w' = ext w p) (fun a' => ∀ w', (∃ p, w' = ext w p) → wpList P l.toArray Q (l.drop n) a' w') (l.take n) a) : (Code.region id l.toArray true).wp P Q a w :=
  wp_quiet_tail_in (fun w' => ∃ p, w' = ext w p) n hm hB (ext_of_below ((Below.refl _ _).drew)) h
end
end Go.Proofs.Ytlegpkdighoflaa
namespace Go.Proofs.Ytlegpkdighoflaa
open Go Go.RowKit
def S8 (l : List UInt8) : Value := .string ⟨l.toArray⟩
theorem rowAt_some {w : World} {a : Addr} {n : Nat} {cs : List Value} (h : rowAt w a n = some cs) : cs.length = n ∧ ∀ j (u : Value), cs[j]? = some u → w.cell? (a.add j) = some u := (mapM_range (fun j => w.cell? (a.add j)) n cs).1 h
open Classical in
noncomputable def asCells8 (cs : List Value) : Option (List UInt8) := if h : ∃ l, cs = c8 l then some h.choose else none
@[go_sem] theorem asCells8_c8 (l : List UInt8) : asCells8 (c8 l) = some l := by
  have h : ∃ m, c8 l = c8 m := ⟨l, rfl⟩
  unfold asCells8
  rw [dif_pos h]
  exact congrArg some ((List.map_inj_right fun _ _ => n8inj).1 h.choose_spec).symm
theorem of_asCells8 {cs : List Value} {l : List UInt8} (h : asCells8 cs = some l) : cs = c8 l := by
  unfold asCells8 at h
  split at h
  · rename_i hh
    injection h with h
    rw [← h]; exact hh.choose_spec
  · cases h
noncomputable def strOp (w : World) (raw : Result Next) : Value → Result Next
  | .slice (some a) n _ => match (rowAt w a n).bind asCells8 with
    | some l => .ok (.value (S8 l)) w
    | none => raw
  | .slice none n _ => if n = 0 then .ok (.value (S8 [])) w else raw
  | _ => raw
@[go_sem] theorem strOp_none (w : World) (raw : Result Next) (c : Nat) : strOp w raw (.slice none 0 c) = .ok (.value (S8 [])) w := rfl
@[go_sem] theorem strOp_at (w : World) (raw : Result Next) (a : Addr) (n c : Nat) : strOp w raw (.slice (some a) n c) = match (rowAt w a n).bind asCells8 with
    | some l => .ok (.value (S8 l)) w
    | none => raw := rfl
@[go_sem] theorem bind_c8 (l : List UInt8) : (some (c8 l)).bind asCells8 = some l := asCells8_c8 l
theorem fold_bytes (l : List UInt8) : ∀ (b : ByteArray), (l.map (fun x => n8 x)).foldl (fun r n => r.push (UInt8.ofNat n.toNat)) b = ⟨b.data ++ l.toArray⟩ := by
  induction l with
  | nil => intro b; simp
  | cons x l ih =>
    intro b
    rw [List.map_cons, List.foldl_cons, ih]
    have e : UInt8.ofNat (n8 x).toNat = x := by unfold n8; simp
    rw [e]
    congr 1
    apply Array.ext'
    simp [ByteArray.push]
theorem exec_str {P : Program} (w : World) (ρ : Operand → Value) (dst : Option Tmp) (ty : TypeId) (pos : String) (after : Array Edge) (guard : Option (Nat × Bool)) (s t e : TypeId) (x : Operand)
    (hs : P.underlying s = some (.slice e)) (he : P.underlying e = some (.int .u8)) (hd : P.underlying t = some .string) :
    (execOp ρ { dst, op := .convert s t x, type := ty, pos, after, guard }).run P w = strOp w (rawOp P ρ { dst, op := .convert s t x, type := ty, pos, after, guard } w) (ρ x) := by
  generalize hv : ρ x = v
  unfold strOp
  split
  · rename_i a n c
    split
    · rename_i l hl
      rw [Option.bind_eq_some_iff] at hl
      obtain ⟨cs, h1, h2⟩ := hl
      have h3 := of_asCells8 h2
      subst h3
      obtain ⟨hlen, hc⟩ := rowAt_some h1
      have h4 : (loadCells a n).run P w = .ok ((l.map (fun x => n8 x)).map (Value.int .u8)).toArray w := by
        have := run_loadCells_list (P := P) (w := w) a (c8 l) hc
        rw [hlen] at this
        rw [this]
        simp [c8, v8]
      have h5 := run_bytesToString (P := P) w a n c (l.map fun x => n8 x) h4
      rw [fold_bytes] at h5
      have h6 := run_convert_bytes_string (P := P) w s t e (some a) n c hs he hd
      unfold execOp
      simp only [Sem.run_bind, hv]
      rw [h6, h5]
      simp only [Result.andThen_ok]
      show Result.ok (Next.value (Value.string _)) w = _
      simp [S8]
    · rfl
  · rename_i n c
    split
    · rename_i h0
      subst h0
      have h6 := run_convert_bytes_string (P := P) w s t e none 0 c hs he hd
      unfold execOp
      simp only [Sem.run_bind, hv]
      rw [h6]
      rfl
    · rfl
  · rfl
noncomputable def asStr (v : Value) : Option (List UInt8) := match v with | .string s => some s.data.toList | _ => none
theorem asStr_S8 (l : List UInt8) : asStr (S8 l) = some l := rfl
def eqlS (neg : Bool) (w : World) (raw : Result Next) : Value → Value → Result Next
  | .string s, .string t => .ok (.value (.bool (neg != (s.data.toList == t.data.toList)))) w
  | _, _ => raw
@[go_sem] theorem eqlS_S8 (neg : Bool) (w : World) (raw : Result Next) (l m : List UInt8) : eqlS neg w raw (S8 l) (S8 m) = .ok (.value (.bool (neg != (l == m)))) w := rfl
@[go_sem] theorem eqlS_lit (neg : Bool) (w : World) (raw : Result Next) (s t : ByteArray) : eqlS neg w raw (.string s) (.string t) = .ok (.value (.bool (neg != (s.data.toList == t.data.toList)))) w := rfl
theorem By.takes {w : World} {lo B : Nat} {A : Option Addr} {n c : Nat} {l : List UInt8} (h : By w lo B (.slice A n c) l) {k : Nat} (hk : k ≤ n) : By w lo B (.slice A k c) (l.take k) := by
  obtain ⟨A2, c2, e, h2, h3, h4⟩ := h.open_
  injection e with e1 e2 e3
  subst e1; subst e3; subst e2
  have hl : (l.take k).length = k := by rw [List.length_take]; omega
  have := By.mk_ (w := w) (lo := lo) (B := B) (A := A) (c := c) (l := l.take k) (by omega) (by unfold maxLen; exact h3) (by rw [List.map_take]; exact h4.take k)
  rwa [hl] at this
theorem By.drops {w : World} {lo B : Nat} {A : Option Addr} {n c : Nat} {l : List UInt8} (h : By w lo B (.slice A n c) l) {k : Nat} (hk : k ≤ n) : By w lo B (.slice (if c = k then A else A.map (·.add k)) (n - k) (c - k)) (l.drop k) := by
  obtain ⟨A2, c2, e, h2, h3, h4⟩ := h.open_
  injection e with e1 e2 e3
  subst e1; subst e3; subst e2
  have hl : (l.drop k).length = l.length - k := by rw [List.length_drop]
  have := By.mk_ (w := w) (lo := lo) (B := B) (A := if c = k then A else A.map (·.add k)) (c := c - k) (l := l.drop k) (by omega) (by unfold maxLen; omega) (by rw [List.map_drop]; exact h4.cut (by simpa using h2))
  rwa [hl] at this
theorem Parts.two (w : World) (t : TypeId) (x y : Value) (l m : List UInt8) (hx : By w 0 w.heap.size x l) (hy : By w 0 w.heap.size y m) : Parts (w.alloc (.cells #[x, y] t)) (w.heap.size + 1) (.slice (some ⟨w.heap.size, 0, none⟩) 2 2) [l, m] :=
  Parts.build w t [x, y] [l, m] rfl (by simp) fun i u k hu hk => by
    match i, hu, hk with
    | 0, hu, hk => simp at hu hk; subst hu; subst hk; exact hx
    | 1, hu, hk => simp at hu hk; subst hu; subst hk; exact hy
    | i + 2, hu, hk => simp at hu
/-- Bytes that are there, as a whole row. -/
theorem By.row {w : World} {lo B : Nat} {v : Value} {l : List UInt8} (h : By w lo B v l) (hl : 0 < l.length) : ∃ g o c, v = .slice (some ⟨g, o, none⟩) l.length c ∧ l.length ≤ c ∧ c ≤ 9223372036854775807 ∧ lo ≤ g ∧ g < B ∧ rowAt w ⟨g, o, none⟩ l.length = some (c8 l) := by
  obtain ⟨A, c, rfl, h2, h3, h4⟩ := h.open_
  obtain ⟨g, o, rfl, hg, hB, hc⟩ := h4.some (by simpa using hl)
  exact ⟨g, o, c, rfl, h2, h3, hg, hB, rowAt_iff.2 ⟨by simp, hc⟩⟩
theorem strOp_by {w : World} {lo B : Nat} {v : Value} {l : List UInt8} (h : By w lo B v l) (raw : Result Next) : strOp w raw v = .ok (.value (S8 l)) w := by
  obtain ⟨A, c, rfl, h2, h3, h4⟩ := h.open_
  cases A with
  | none =>
    rcases h4 with h4 | ⟨g, o, h4, _⟩
    · have : l = [] := by simpa using h4
      subst this
      rfl
    · cases h4
  | some a =>
    have hr : rowAt w a l.length = some (c8 l) := by
      rcases h4 with h4 | ⟨g, o, h4, _, _, hc⟩
      · have : l = [] := by simpa using h4
        subst this
        rfl
      · injection h4 with h4
        subst h4
        exact rowAt_iff.2 ⟨by simp, hc⟩
    rw [strOp_at, hr]
    simp [asCells8_c8]
section
variable (w : World) (ρ : Operand → Value) (dst : Option Tmp) (ty : TypeId) (pos : String) (after : Array Edge) (guard : Option (Nat × Bool))
@[go_sem ↓ high] theorem str_bytes (x : Operand) :
    (execOp ρ { dst, op := .convert 22 9 x, type := ty, pos, after, guard }).run Try.prog w = strOp w (rawOp Try.prog ρ { dst, op := .convert 22 9 x, type := ty, pos, after, guard } w) (ρ x) :=
  exec_str w ρ dst ty pos after guard 22 9 5 x Try.underlying22 Try.underlying5 Try.underlying9
theorem toList_data (s : ByteArray) : s.toList = s.data.toList := by
  have := ByteArray.toList_loop_eq s _ 0 [] rfl (Nat.zero_le _)
  simpa [ByteArray.toList] using this
@[go_sem ↓ high] theorem eql_str (x y : Operand) (yt : TypeId) :
    (execOp ρ { dst, op := .binOp .eql 9 x y yt, type := ty, pos, after, guard }).run Try.prog w = eqlS false w (rawOp Try.prog ρ { dst, op := .binOp .eql 9 x y yt, type := ty, pos, after, guard } w) (ρ x) (ρ y) := by
  generalize hx : ρ x = a
  generalize hy : ρ y = b
  unfold eqlS
  split
  · rename_i s t
    simp only [execOp, hx, hy, eqGuard_at_string, binOp_string_eql, toList_data]
    simp
  · rfl
end
end Go.Proofs.Ytlegpkdighoflaa
