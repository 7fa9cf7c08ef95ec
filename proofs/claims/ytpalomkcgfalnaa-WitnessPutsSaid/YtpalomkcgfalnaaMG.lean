/- Pairs (64 bytes each) and slices of them. · Plain: keys compared byte by byte; putting a pair into a rising list is putting it into the tree. No program in sight. · The reference's Less, Get and Put over pairs. · The reference's Root over pairs is the tree's. · Plain: trees made by putting lists of pairs. No program in sight. -/
import Derived.Test.YtpalomkcgfalnaaMF
import Derived.Test.YtpalomkcgfalnaaMA
import Derived.Outline
import Derived.Test.YtpalomkcgfalnaaME
set_option linter.unusedVariables false
set_option linter.unusedSimpArgs false
namespace Go.Proofs.Ytpalomkcgfalnaa
open Go Go.RowKit Sh
/-- A pair's bytes. -/
def pb (p : Pr) : List UInt8 := p.1 ++ p.2
def PrOk (p : Pr) : Prop := p.1.length = 32 ∧ p.2.length = 32
theorem PrOk.len {p : Pr} (h : PrOk p) : (pb p).length = 64 := by unfold pb; rw [List.length_append, h.1, h.2]
def flat (l : List Pr) : List UInt8 := (l.map pb).flatten
theorem flat_append (l m : List Pr) : flat (l ++ m) = flat l ++ flat m := by simp [flat]
theorem flat_one (p : Pr) : flat [p] = pb p := by simp [flat]
theorem length_flat {l : List Pr} (h : ∀ p ∈ l, PrOk p) : (flat l).length = l.length * 64 := by
  induction l with
  | nil => rfl
  | cons p l ih =>
    have h1 := ih fun q hq => h q (by simp [hq])
    have h2 := (h p (by simp)).len
    simp only [flat, List.map_cons, List.flatten_cons, List.length_append, List.length_cons] at h1 h2 ⊢
    omega
theorem flat_at {l : List Pr} (h : ∀ p ∈ l, PrOk p) : ∀ {i : Nat} {p : Pr}, l[i]? = some p → ((flat l).drop (i * 64)).take 64 = pb p := by
  induction l with
  | nil => intro i p hp; simp at hp
  | cons q l ih =>
    intro i p hp
    have h2 := (h q (by simp)).len
    cases i with
    | zero =>
      simp at hp; subst hp
      simp only [flat, List.map_cons, List.flatten_cons, Nat.zero_mul, List.drop_zero]
      rw [← h2, List.take_left]
    | succ i =>
      have := ih (fun q hq => h q (by simp [hq])) (i := i) (p := p) (by simpa using hp)
      simp only [flat, List.map_cons, List.flatten_cons] at this ⊢
      rw [show (i + 1) * 64 = (pb q).length + i * 64 by omega, ← List.drop_drop, List.drop_left]
      exact this
/-- The slice value v reads as these pairs, in a block from lo to B. -/
def Ps (w : World) (lo B : Nat) (v : Value) (l : List Pr) : Prop := (∀ p ∈ l, PrOk p) ∧ ∃ A c, v = .slice A l.length c ∧ l.length ≤ c ∧ c ≤ maxLen ∧ Rd w lo B A (c8 (flat l))
section
variable {w w' : World} {lo lo' B B' : Nat} {v : Value} {l : List Pr}
theorem Ps.below (h : Ps w lo B v l) (hb : Below B w w') : Ps w' lo B v l := let ⟨h0, A, c, h1, h2, h3, h4⟩ := h; ⟨h0, A, c, h1, h2, h3, h4.below hb⟩
theorem Ps.more (h : Ps w lo B v l) (hB : B ≤ B') : Ps w lo B' v l := let ⟨h0, A, c, h1, h2, h3, h4⟩ := h; ⟨h0, A, c, h1, h2, h3, h4.more hB⟩
theorem Ps.less (h : Ps w lo B v l) (hB : lo' ≤ lo) : Ps w lo' B v l := let ⟨h0, A, c, h1, h2, h3, h4⟩ := h; ⟨h0, A, c, h1, h2, h3, h4.less hB⟩
theorem Ps.nil (w : World) (lo B : Nat) : Ps w lo B (.slice none 0 0) [] := ⟨by simp, none, 0, rfl, Nat.le_refl _, by simp [maxLen], .inl rfl⟩
theorem Ps.form (h : Ps w lo B v l) : ∃ A c, v = .slice A l.length c ∧ l.length ≤ c ∧ c ≤ 9223372036854775807 := by
  obtain ⟨_, A, c, h1, h2, h3, _⟩ := h; exact ⟨A, c, h1, h2, by unfold maxLen at h3; exact h3⟩
theorem Ps.sub (h : Ps w lo B v l) : ∃ g o c, (∀ i p, l[i]? = some p → rowAt w ⟨g, o + i * 64, none⟩ 64 = some (c8 (pb p)) ∧ rowAt w ⟨g, o + i * 64, none⟩ 32 = some (c8 p.1) ∧ rowAt w ⟨g, o + i * 64 + 32, none⟩ 32 = some (c8 p.2)) ∧ lo ≤ g ∧ g < B ∧ v = .slice (some ⟨g, o, none⟩) l.length c ∧ l.length ≤ c ∧ c ≤ 9223372036854775807 ∨ l = [] := by
  obtain ⟨h0, A, c, h1, h2, h3, h4⟩ := h
  rcases Nat.eq_zero_or_pos l.length with h5 | h5
  · exact ⟨0, 0, 0, .inr (List.eq_nil_of_length_eq_zero h5)⟩
  · obtain ⟨g, o, rfl, hl, hb, hc⟩ := h4.some (by rw [length_c8, length_flat h0]; omega)
    refine ⟨g, o, c, .inl ⟨fun i p hp => ?_, hl, hb, h1, h2, by unfold maxLen at h3; exact h3⟩⟩
    have hil : i < l.length := (List.getElem?_eq_some_iff.1 hp).1
    have hfl := length_flat h0
    have hat := flat_at h0 hp
    have hok := h0 p (List.mem_of_getElem? hp)
    have hcell : ∀ j, j < 64 → (c8 (pb p))[j]? = (c8 (flat l))[i * 64 + j]? := by
      intro j hj
      rw [← hat]
      simp only [c8, List.getElem?_map, List.getElem?_take, List.getElem?_drop, if_pos hj]
    have hk : ∀ j, j < 32 → (c8 (pb p))[j]? = (c8 p.1)[j]? := by
      intro j hj
      simp only [c8, pb, List.map_append]
      rw [List.getElem?_append_left (by simp [hok.1]; exact hj)]
    have hv : ∀ j, j < 32 → (c8 (pb p))[32 + j]? = (c8 p.2)[j]? := by
      intro j hj
      simp only [c8, pb, List.map_append]
      rw [List.getElem?_append_right (by simp [hok.1])]
      simp [hok.1]
    refine ⟨rowAt_iff.2 ⟨by rw [length_c8, hok.len], fun j u hj => ?_⟩, rowAt_iff.2 ⟨by rw [length_c8, hok.1], fun j u hj => ?_⟩, rowAt_iff.2 ⟨by rw [length_c8, hok.2], fun j u hj => ?_⟩⟩
    · have hj6 : j < 64 := by have := (List.getElem?_eq_some_iff.1 hj).1; rw [length_c8, hok.len] at this; exact this
      rw [Nat.add_assoc]
      exact hc _ _ (by rw [← hcell j hj6]; exact hj)
    · have hj6 : j < 32 := by have := (List.getElem?_eq_some_iff.1 hj).1; rw [length_c8, hok.1] at this; exact this
      rw [Nat.add_assoc]
      exact hc _ _ (by rw [← hcell j (by omega), hk j hj6]; exact hj)
    · have hj6 : j < 32 := by have := (List.getElem?_eq_some_iff.1 hj).1; rw [length_c8, hok.2] at this; exact this
      rw [Nat.add_assoc, Nat.add_assoc]
      exact hc _ _ (by rw [← hcell (32 + j) (by omega), hv j hj6]; exact hj)
end
/-- The slice value v is the call's own (in a block from base on, or nil) and reads as these pairs. -/
def OwnP (w : World) (base : Nat) (v : Value) (l : List Pr) : Prop := (∀ p ∈ l, PrOk p) ∧ w.ownsRow base 36 64 v l.length (c8 (flat l))
theorem OwnP.nil (w : World) (base : Nat) : OwnP w base (.slice none 0 0) [] := ⟨by simp, World.ownsRow_nil w base _ _⟩
theorem OwnP.below {w w' : World} {base B : Nat} {v : Value} {l : List Pr} (h : OwnP w base v l) (hb : Below B w w') (hB : w.heap.size ≤ B) : OwnP w' base v l := by
  refine ⟨h.1, World.ownsRow.kept (row := none) h.2 ⟨hb.os, hb.tape, hb.output, hb.size, fun k hk _ => hb.block k (by omega)⟩ ?_⟩
  cases hv : v.ownBlock <;> simp
theorem OwnP.kept {w w' : World} {base : Nat} {v : Value} {l : List Pr} {row : Option Nat} (h : OwnP w base v l) (hg : w.grownBy w' row) (hne : v.ownBlock = none ∨ v.ownBlock ≠ row) : OwnP w' base v l := ⟨h.1, World.ownsRow.kept h.2 hg hne⟩
theorem OwnP.less {w : World} {base base' : Nat} {v : Value} {l : List Pr} (h : OwnP w base v l) (hb : base' ≤ base) : OwnP w base' v l := by
  refine ⟨h.1, h.2.1, ?_⟩
  rcases h.2.2 with h2 | ⟨g, cap, cur, hv, hg, r⟩
  · exact .inl h2
  · exact .inr ⟨g, cap, cur, hv, by omega, r⟩
theorem OwnP.alloc {w : World} {base : Nat} {v : Value} {l : List Pr} (h : OwnP w base v l) (o : Obj) : OwnP (w.alloc o) base v l := ⟨h.1, World.ownsRow.alloc h.2 o⟩
theorem OwnP.drewN {w : World} {base : Nat} {v : Value} {l : List Pr} (h : OwnP w base v l) (n : Nat) : OwnP (w.drewN n) base v l := h
theorem OwnP.ps {w : World} {base : Nat} {v : Value} {l : List Pr} (h : OwnP w base v l) : Ps w base w.heap.size v l := by
  refine ⟨h.1, ?_⟩
  rcases h.2.2 with ⟨rfl, hn⟩ | ⟨g, cap, cur, rfl, hbg, hh, hr, hm, hsz, ht⟩
  · rw [hn]
    have : l = [] := List.eq_nil_of_length_eq_zero hn
    subst this
    exact ⟨none, 0, rfl, Nat.le_refl _, by simp [maxLen], .inl rfl⟩
  · refine ⟨_, cap, rfl, hr, hm, .inr ⟨g, 0, rfl, hbg, (Array.getElem?_eq_some_iff.1 hh).1, fun j u hu => ?_⟩⟩
    have := h.2.cells (g := g) rfl j u hu
    rwa [addr_lit] at this
/-! ### The operations -/
theorem infoP : (Try.prog.info? 36).map (fun i => (i.zero, i.size, i.bytes)) = some (some (A8 (z8 64)), 64, 64) := by kernel_rfl
theorem sizeP : (Try.prog.info? 36).map (·.size) = some 64 := by kernel_rfl
theorem zeroP : ((Try.prog.info? 36).bind (·.zero)) = some (A8 (z8 64)) := by kernel_rfl
theorem fieldsP : Try.prog.underlying 36 = some (.struct (fieldsOf Try.prog 36)) := by kernel_rfl
theorem placesP (w : World) : (placesOf (fieldsOf Try.prog 36)).run Try.prog w = .ok #[(0, 32), (32, 32)] w := by kernel_rfl
def oneOp (n : Nat) (t : TypeId) (w : World) (raw : Result Next) : Value → Result Next
  | .agg cs => if cs.size = n then .ok (.value (.slice (some ⟨w.heap.size, 0, none⟩) 1 1)) (w.alloc (.cells cs t)) else raw
  | _ => raw
@[go_sem] theorem oneOp_A8 (n : Nat) (t : TypeId) (w : World) (raw : Result Next) (l : List UInt8) : oneOp n t w raw (A8 l) = if l.length = n then .ok (.value (.slice (some ⟨w.heap.size, 0, none⟩) 1 1)) (w.alloc (.cells (c8 l).toArray t)) else raw := by
  have e : oneOp n t w raw (A8 l) = if (c8 l).toArray.size = n then .ok (.value (.slice (some ⟨w.heap.size, 0, none⟩) 1 1)) (w.alloc (.cells (c8 l).toArray t)) else raw := rfl
  rw [e]
  simp only [List.size_toArray, length_c8]
theorem exec_one {P : Program} (w : World) (ρ : Operand → Value) (dst : Option Tmp) (ty : TypeId) (pos : String) (after : Array Edge) (guard : Option (Nat × Bool)) (t e n : Nat) (z : Value) (x : Operand)
    (ht : P.underlying t = some (.slice e)) (hi : (P.info? e).map (fun i => (i.zero, i.size, i.bytes)) = some (some z, n, n)) (hz : z.cells.size = n) (hn : n ≤ 16777216) (hp : n ≠ 0) :
    (execOp ρ { dst, op := .buildSlice t 1 #[(0, x)], type := ty, pos, after, guard }).run P w = oneOp n e w (rawOp P ρ { dst, op := .buildSlice t 1 #[(0, x)], type := ty, pos, after, guard } w) (ρ x) := by
  generalize hv : ρ x = v
  unfold oneOp
  split
  · rename_i cs
    split
    · rename_i hcs
      cases hq : P.info? e with
      | none => simp [hq] at hi
      | some i =>
        simp only [hq, Option.map_some, Option.some.injEq, Prod.mk.injEq] at hi
        obtain ⟨h1, h2, _⟩ := hi
        have hf : Instr.fill (fun i => some (i * n, n)) ((Array.range (1 * n)).map (fun j => z.cells[j % z.cells.size]!)) [(0, Value.agg cs)] = some cs := by
          have hsz : ((Array.range (1 * n)).map (fun j => z.cells[j % z.cells.size]!)).size = n := by simp
          generalize (Array.range (1 * n)).map (fun j => z.cells[j % z.cells.size]!) = m at *
          have h3 := fill_fits (fun i => some (i * n, n)) [(0, Value.agg cs)] [(0, cs.toList)] m.toList ⟨by simp [hcs], rfl, by simp [hcs, hsz], trivial⟩
          rw [Array.toArray_toList] at h3
          rw [h3]
          simp [putAll, putCells, hcs, hsz, List.drop_eq_nil_of_le]
        have hl' : ¬ (16777216 < n) := by omega
        have hr : (Instr.buildSlice t 1 #[(0, Value.agg cs)]).run P w = .ok (.slice (some ⟨w.heap.size, 0, none⟩) 1 1) (w.alloc (.cells cs e)) := by
          unfold Instr.buildSlice
          simp only [Sem.run_bind, run_underlying ht, Result.andThen_ok, sizeOf, typeInfo, Sem.run_pure]
          simp only [Nat.one_mul] at hf
          simp [hq, h2, hl', hp, zeroValue, typeInfo, h1, newRow]
          rw [hf]
          rfl
        simp only [execOp, List.map_toArray, List.map_cons, List.map_nil, hv, Sem.run_bind, hr, Result.andThen_ok, Sem.run_pure]
    · rfl
  · rfl
section
variable (w : World) (ρ : Operand → Value) (dst : Option Tmp) (ty : TypeId) (pos : String) (after : Array Edge) (guard : Option (Nat × Bool))
@[go_sem ↓ high] theorem load_pair (x : Operand) :
    (execOp ρ { dst, op := .load 36 x, type := ty, pos, after, guard }).run Try.prog w = loadOp 64 w (rawOp Try.prog ρ { dst, op := .load 36 x, type := ty, pos, after, guard } w) (ρ x) :=
  exec_load w ρ dst ty pos after guard 36 64 _ x (by decide) fieldsP rfl sizeP
@[go_sem ↓ high] theorem store_pair (x y : Operand) :
    (execOp ρ { dst, op := .store 36 x y, type := ty, pos, after, guard }).run Try.prog w = storeOp 64 w (rawOp Try.prog ρ { dst, op := .store 36 x y, type := ty, pos, after, guard } w) (ρ x) (ρ y) :=
  exec_store w ρ dst ty pos after guard 36 64 x y (by decide) sizeP
@[go_sem ↓ high] theorem alloc_pair :
    (execOp ρ { dst, op := .alloc 36, type := ty, pos, after, guard }).run Try.prog w = .ok (.value (.pointer (some ⟨w.heap.size, 0, none⟩))) (w.alloc (.cells (c8 (z8 64)).toArray 36)) :=
  exec_alloc w ρ dst ty pos after guard 36 (A8 (z8 64)) zeroP
@[go_sem ↓ high] theorem box_pair (x : Operand) :
    (execOp ρ { dst, op := .box 36 x, type := ty, pos, after, guard }).run Try.prog w = boxOp 36 w (rawOp Try.prog ρ { dst, op := .box 36 x, type := ty, pos, after, guard } w) (ρ x) := exec_box w ρ dst ty pos after guard 36 x
@[go_sem ↓ high] theorem one_pair (x : Operand) :
    (execOp ρ { dst, op := .buildSlice 34 1 #[(0, x)], type := ty, pos, after, guard }).run Try.prog w = oneOp 64 36 w (rawOp Try.prog ρ { dst, op := .buildSlice 34 1 #[(0, x)], type := ty, pos, after, guard } w) (ρ x) :=
  exec_one w ρ dst ty pos after guard 34 36 64 (A8 (z8 64)) x Try.underlying34 infoP (by simp [A8, Value.cells]) (by decide) (by decide)
end
noncomputable def pairOp (w : World) (raw : Result Next) (k v : Value) : Result Next :=
  match asBytes k, asBytes v with
  | some k, some v => if k.length = 32 ∧ v.length = 32 then .ok (.value (A8 (pb (k, v)))) w else raw
  | _, _ => raw
@[go_sem] theorem pairOp_at (w : World) (raw : Result Next) (k v : List UInt8) (hk : k.length = 32) (hv : v.length = 32) : pairOp w raw (A8 k) (A8 v) = .ok (.value (A8 (pb (k, v)))) w := by
  unfold pairOp
  rw [asBytes_A8, asBytes_A8]
  simp [hk, hv]
theorem run_pair (k v : List UInt8) (hk : k.length = 32) (hv : v.length = 32) (w : World) : (Instr.build 36 #[(0, A8 k), (1, A8 v)]).run Try.prog w = .ok (A8 (pb (k, v))) w := by
  have hz : (A8 (z8 64)).cells.toList = c8 (z8 64) := rfl
  have hl : (c8 (z8 64)).length = 64 := by simp
  have h1 := run_build_struct fieldsP zeroP w (placesP w) #[(0, A8 k), (1, A8 v)] [(0, c8 k), (32, c8 v)] (by
    rw [hz, hl]
    exact ⟨by simp [hk], rfl, by simp [hk], by simp [hv], rfl, by simp [hv], trivial⟩)
  refine h1.trans (congrArg (fun (cs : List Value) => Result.ok (Value.agg cs.toArray) w) ?_)
  rw [hz]
  simp [putAll, putCells, hk, hv, List.take_append, List.drop_append, List.drop_eq_nil_of_le, List.take_of_length_le, pb, c8]
@[go_sem ↓ high] theorem build_pair (w : World) (ρ : Operand → Value) (dst : Option Tmp) (ty : TypeId) (pos : String) (after : Array Edge) (guard : Option (Nat × Bool)) (x y : Operand) :
    (execOp ρ { dst, op := .build 36 #[(0, x), (1, y)], type := ty, pos, after, guard }).run Try.prog w = pairOp w (rawOp Try.prog ρ { dst, op := .build 36 #[(0, x), (1, y)], type := ty, pos, after, guard } w) (ρ x) (ρ y) := by
  generalize hx : ρ x = a
  generalize hy : ρ y = b
  unfold pairOp
  split
  · rename_i k v h1 h2
    replace h1 := of_asBytes h1
    replace h2 := of_asBytes h2
    split
    · rename_i h
      refine exec_build w ρ dst ty pos after guard _ _ _ ?_
      simp only [List.map_toArray, List.map_cons, List.map_nil, hx, hy, h1, h2]
      exact run_pair k v h.1 h.2 w
    · rfl
  · rfl
section
variable {w : World} {g : Nat} {t : TypeId} {p : Pr}
theorem pair_key (h : Bk w g t (c8 (pb p))) (hp : PrOk p) : rowAt w ⟨g, 0, none⟩ 32 = some (c8 p.1) := by
  have := h.rowMid 0 32 (by rw [length_c8, hp.len]; omega)
  rw [this]; simp [pb, c8, hp.1]
theorem pair_val (h : Bk w g t (c8 (pb p))) (hp : PrOk p) : rowAt w ⟨g, 32, none⟩ 32 = some (c8 p.2) := by
  have := h.rowMid 32 32 (by rw [length_c8, hp.len]; omega)
  rw [this]; simp [pb, c8, hp.1, hp.2, List.take_of_length_le]
theorem pair_all (h : Bk w g t (c8 (pb p))) (hp : PrOk p) : rowAt w ⟨g, 0, none⟩ 64 = some (c8 (pb p)) := by
  have := h.rows
  rwa [length_c8, hp.len] at this
theorem Bk.fresh (w : World) (t : TypeId) {l m : List UInt8} (h : l.length = m.length) : Bk (putAt (w.alloc (.cells (c8 l).toArray t)) ⟨w.heap.size, 0, none⟩ (c8 m)) w.heap.size t (c8 m) := (Bk.new w t (c8 l)).puts (by simp [h])
@[go_sem] theorem fresh_key (w : World) (t : TypeId) (p : Pr) (hp : PrOk p) : rowAt (putAt (w.alloc (.cells (c8 (z8 64)).toArray t)) ⟨w.heap.size, 0, none⟩ (c8 (pb p))) ⟨w.heap.size, 0, none⟩ 32 = some (c8 p.1) := pair_key (Bk.fresh w t (by simp [hp.len])) hp
@[go_sem] theorem fresh_val (w : World) (t : TypeId) (p : Pr) (hp : PrOk p) : rowAt (putAt (w.alloc (.cells (c8 (z8 64)).toArray t)) ⟨w.heap.size, 0, none⟩ (c8 (pb p))) ⟨w.heap.size, 32, none⟩ 32 = some (c8 p.2) := pair_val (Bk.fresh w t (by simp [hp.len])) hp
@[go_sem] theorem fresh_pair (w : World) (t : TypeId) (p : Pr) (hp : PrOk p) : rowAt (putAt (w.alloc (.cells (c8 (z8 64)).toArray t)) ⟨w.heap.size, 0, none⟩ (c8 (pb p))) ⟨w.heap.size, 0, none⟩ 64 = some (c8 (pb p)) := pair_all (Bk.fresh w t (by simp [hp.len])) hp
@[go_sem] theorem boxed_key (w : World) (t : TypeId) (p : Pr) (hp : PrOk p) : rowAt (w.alloc (.cells (c8 (pb p)).toArray t)) ⟨w.heap.size, 0, none⟩ 32 = some (c8 p.1) := pair_key (Bk.new w t _) hp
@[go_sem] theorem boxed_val (w : World) (t : TypeId) (p : Pr) (hp : PrOk p) : rowAt (w.alloc (.cells (c8 (pb p)).toArray t)) ⟨w.heap.size, 32, none⟩ 32 = some (c8 p.2) := pair_val (Bk.new w t _) hp
end
section
variable {w : World} {base : Nat} {v : Value} {l : List Pr} {ops : Array Oper} {rest : List Oper} {o : Oper} {a : Act} {Q : Exit → Act → World → Prop}
theorem OwnP.form {w : World} {base : Nat} {v : Value} {l : List Pr} (h : OwnP w base v l) : ∃ A c, v = .slice A l.length c ∧ l.length ≤ c ∧ c ≤ 9223372036854775807 := h.ps.form
theorem below_of_grownP {w w' : World} {base : Nat} {v : Value} {l : List Pr} (hown : OwnP w base v l) (hg : w.grownBy w' v.ownBlock) (hb : base ≤ w.heap.size) : Below base w w' :=
  (Below.refl _ _).grown hg hb fun k hk => (hown.2.lt k hk).1
/-- append(s, p): the pair first lies in a block of its own. -/
theorem appP (hgd : o.guard = none) (s x : Operand) (ho : o.op = .call { callee := .builtin .append, args := #[s, x], argTypes := #[34, 34] })
    (hs : a.eval s = v) (hown : OwnP w base v l) (p : Pr) (hp : PrOk p) (m : List UInt8) (hm : m = pb p) {N : Nat} (hx : a.eval x = .slice (some ⟨N, 0, none⟩) 1 1) (hN : w.heap.size = N) (hsz : l.length ≤ 1099511627776) (hb : base ≤ w.heap.size)
    (h : ∀ A c w', (l.length + 1) ≤ c → c ≤ 9223372036854775807 → OwnP w' base (.slice A (l.length + 1) c) (l ++ [p]) → Below base w w' → w.grownBy w' v.ownBlock → ((Value.slice A (l.length + 1) c).ownBlock = v.ownBlock ∨ (Value.slice A (l.length + 1) c).ownBlock = some w.heap.size ∨ (Value.slice A (l.length + 1) c).ownBlock = some (w.heap.size + 1)) → wpList Try.prog ops Q rest (a.put o.dst (.slice A (l.length + 1) c)) w') : wpList Try.prog ops Q (o :: rest) a (w.alloc (.cells (c8 m).toArray 36)) :=
  wpList_plain hgd fun _ hK => by
    subst hm hN
    obtain ⟨i0, hi0, hz0, hz1, hz2⟩ := info_parts infoP
    have hB := Bk.new w 36 (c8 (pb p))
    have hone : ∀ u ∈ c8 (pb p), u.oneCell' = true := by intro u hu; obtain ⟨x, _, rfl⟩ := List.mem_map.1 hu; rfl
    have hown' := hown.alloc (.cells (c8 (pb p)).toArray 36)
    obtain ⟨v', w', hr, h6, h7, _, h8⟩ := run_append_own_at (P := Try.prog) (w.alloc (.cells (c8 (pb p)).toArray 36)) base 34 o.type 36 i0 (A8 (z8 64)) 64 64 Try.underlying34 hi0 hz0 hz1 hz2 (by simp [A8, Value.cells]) (by decide) v l.length (c8 (flat l)) hown'.2
      ⟨w.heap.size, 0, none⟩ 1 1 (c8 (pb p)) (by simp [hp.len]) (fun j u hj => by rw [addr_lit, Nat.zero_add]; exact hB.at_ hj) hone
      (by simp only [maxLen]; omega) (by omega) (by simp; omega)
    have h2 : OwnP w' base v' (l ++ [p]) := by
      refine ⟨fun q hq => ?_, ?_⟩
      · rcases List.mem_append.1 hq with hq | hq
        · exact hown.1 q hq
        · simp at hq; subst hq; exact hp
      · rw [List.length_append, flat_append, flat_one]
        have : c8 (flat l ++ pb p) = c8 (flat l) ++ c8 (pb p) := by simp [c8]
        rw [this]
        exact h6
    unfold Oper.wp execOp
    simp only [ho, resolve, invoke, builtin, Sem.run_bind, Sem.run_pure, Result.andThen_ok, List.map_toArray, List.map_cons, List.map_nil, hs, hx, hr]
    obtain ⟨A, c, hA, hc1, hc2⟩ := h2.form
    have hl1 : (l ++ [p]).length = l.length + 1 := by simp
    rw [hl1] at hA hc1
    subst hA
    have hal : w.grownBy (w.alloc (.cells (c8 (pb p)).toArray 36)) v.ownBlock := ⟨rfl, rfl, rfl, by simp, fun k hk _ => Below.heap_alloc _ _ _ hk⟩
    have hg : w.grownBy w' v.ownBlock := hal.trans h7
    refine hK _ _ (h A c w' hc1 hc2 h2 (below_of_grownP hown hg hb) hg ?_)
    rcases h8 with h8 | h8
    · exact .inl h8
    · exact .inr (.inr (by simpa using h8))
end
end Go.Proofs.Ytpalomkcgfalnaa
namespace Go.Proofs.Ytpalomkcgfalnaa
open Sh
theorem bits_lt : ∀ (n x y : Nat), x < y → y < 2 ^ n → ∃ j, j < n ∧ (∀ i, j < i → x.testBit i = y.testBit i) ∧ x.testBit j = false ∧ y.testBit j = true
  | 0, x, y, h, hy => by simp at hy; omega
  | n + 1, x, y, h, hy => by
    by_cases hh : x / 2 < y / 2
    · obtain ⟨j, h1, h2, h3, h4⟩ := bits_lt n (x / 2) (y / 2) hh (by rw [Nat.pow_succ] at hy; omega)
      refine ⟨j + 1, by omega, fun i hi => ?_, by rw [Nat.testBit_succ]; exact h3, by rw [Nat.testBit_succ]; exact h4⟩
      obtain ⟨i, rfl⟩ : ∃ i', i = i' + 1 := ⟨i - 1, by omega⟩
      rw [Nat.testBit_succ, Nat.testBit_succ]
      exact h2 i (by omega)
    · have he : x / 2 = y / 2 := by omega
      refine ⟨0, by omega, fun i hi => ?_, ?_, ?_⟩
      · obtain ⟨i, rfl⟩ : ∃ i', i = i' + 1 := ⟨i - 1, by omega⟩
        rw [Nat.testBit_succ, Nat.testBit_succ, he]
      · rw [Nat.testBit_zero]; simp; omega
      · rw [Nat.testBit_zero]; simp; omega
/-- The first byte in which they differ tells. -/
theorem klt_of_byte {a b : List UInt8} {i : Nat} (hi : i < 32) (he : ∀ j, j < i → g8 a j = g8 b j) (h : g8 a i < g8 b i) : klt a b := by
  obtain ⟨j, h1, h2, h3, h4⟩ := bits_lt 8 (g8 a i).toNat (g8 b i).toNat (UInt8.lt_iff_toNat_lt.1 h) (UInt8.toNat_lt _)
  refine ⟨8 * i + (7 - j), by omega, fun m hm => ?_, ?_, ?_⟩
  · rw [kbit_test, kbit_test]
    by_cases hmi : m / 8 < i
    · rw [he _ hmi]
    · rw [show m / 8 = i by omega]
      exact h2 _ (by omega)
  · rw [kbit_test, show (8 * i + (7 - j)) / 8 = i by omega, show 7 - (8 * i + (7 - j)) % 8 = j by omega]; exact h3
  · rw [kbit_test, show (8 * i + (7 - j)) / 8 = i by omega, show 7 - (8 * i + (7 - j)) % 8 = j by omega]; exact h4
open Classical in
noncomputable def kless (a b : List UInt8) : Bool := decide (klt a b)
theorem kless_iff {a b : List UInt8} : kless a b = true ↔ klt a b := by unfold kless; simp
theorem kless_byte {a b : List UInt8} {i : Nat} (hi : i < 32) (he : ∀ j, j < i → g8 a j = g8 b j) (h : g8 a i ≠ g8 b i) : decide (g8 a i < g8 b i) = kless a b := by
  by_cases hlt : g8 a i < g8 b i
  · rw [decide_eq_true hlt, kless_iff.2 (klt_of_byte hi he hlt)]
  · rw [decide_eq_false hlt]
    have h2 : g8 b i < g8 a i := by
      rw [UInt8.lt_iff_toNat_lt] at hlt ⊢
      have : (g8 a i).toNat ≠ (g8 b i).toNat := fun e => h (UInt8.toNat_inj.1 e)
      omega
    have h3 := klt_of_byte hi (fun j hj => (he j hj).symm) h2
    cases hk : kless a b with
    | false => rfl
    | true => exact absurd (kless_iff.1 hk) h3.asymm
theorem eq_of_bytes {a b : List UInt8} (ha : a.length = 32) (hb : b.length = 32) (h : ∀ j, j < 32 → g8 a j = g8 b j) : a = b := by
  apply List.ext_getElem (by omega)
  intro i h1 h2
  have := h i (by omega)
  unfold g8 at this
  simpa [h1, h2] using this
theorem kless_self (a : List UInt8) : kless a a = false := by
  cases h : kless a a with
  | false => rfl
  | true => exact absurd rfl (kless_iff.1 h).ne
/-! the reference's Put over a list -/
noncomputable def pdone (k : List UInt8) (m : List Pr) : Bool := m.any fun q => !kless q.1 k
noncomputable def pout (k x : List UInt8) (m : List Pr) : List Pr := (m.filter fun q => kless q.1 k) ++ (if pdone k m then [(k, x)] else []) ++ (m.filter fun q => kless k q.1)
noncomputable def pfin (k x : List UInt8) (m : List Pr) : List Pr := (m.filter fun q => kless q.1 k) ++ [(k, x)] ++ (m.filter fun q => kless k q.1)
def Rise (l : List Pr) : Prop := (∀ p ∈ l, p.1.length = 32 ∧ p.2.length = 32) ∧ l.Pairwise fun x y => klt x.1 y.1
section
variable {k x : List UInt8} {m : List Pr} {q : Pr}
theorem pdone_app : pdone k (m ++ [q]) = (pdone k m || !kless q.1 k) := by simp [pdone]
theorem done_less (hk : k.length = 32) (h : Rise (m ++ [q])) (hd : pdone k m = true) : klt k q.1 := by
  unfold pdone at hd
  rw [List.any_eq_true] at hd
  obtain ⟨r, hr, hn⟩ := hd
  have hrq : klt r.1 q.1 := (List.pairwise_append.1 h.2).2.2 r hr q (by simp)
  by_cases e : r.1 = k
  · rw [← e]; exact hrq
  · rcases klt.total (h.1 r (by simp [hr])).1 hk e with h1 | h1
    · rw [kless_iff.2 h1] at hn; cases hn
    · exact h1.trans hrq
theorem hi_nil (hk : k.length = 32) (hd : pdone k m = false) : (m.filter fun q => kless k q.1) = [] := by
  rw [List.filter_eq_nil_iff]
  intro r hr h
  have h2 : kless r.1 k = true := by
    cases h3 : kless r.1 k with
    | true => rfl
    | false =>
      have : pdone k m = true := by unfold pdone; rw [List.any_eq_true]; exact ⟨r, hr, by simp [h3]⟩
      rw [hd] at this; cases this
  exact (kless_iff.1 h).asymm (kless_iff.1 h2)
/-- A lesser key: it stays. -/
theorem pout_less (hk : k.length = 32) (h : Rise (m ++ [q])) (hq : kless q.1 k = true) : pdone k m = false ∧ pdone k (m ++ [q]) = false ∧ pout k x (m ++ [q]) = pout k x m ++ [q] := by
  have hd : pdone k m = false := by
    cases hd : pdone k m with
    | false => rfl
    | true => exact absurd (kless_iff.1 hq) (done_less hk h hd).asymm
  have hk2 : kless k q.1 = false := by
    cases h2 : kless k q.1 with
    | false => rfl
    | true => exact absurd (kless_iff.1 hq) (kless_iff.1 h2).asymm
  refine ⟨hd, by rw [pdone_app, hd, hq]; rfl, ?_⟩
  unfold pout
  rw [pdone_app, hd, hq, List.filter_append, List.filter_append, hi_nil hk hd]
  simp [hq, hk2]
/-- The key itself: it gives way. -/
theorem pout_same (hk : k.length = 32) (h : Rise (m ++ [q])) (hq : q.1 = k) : pdone k m = false ∧ pdone k (m ++ [q]) = true ∧ pout k x (m ++ [q]) = pout k x m ++ [(k, x)] := by
  have hd : pdone k m = false := by
    cases hd : pdone k m with
    | false => rfl
    | true => exact absurd hq.symm (done_less hk h hd).ne
  have hs : kless q.1 k = false := by rw [hq]; exact kless_self k
  have hs2 : kless k q.1 = false := by rw [hq]; exact kless_self k
  refine ⟨hd, by rw [pdone_app, hs]; simp, ?_⟩
  unfold pout
  rw [pdone_app, hs, List.filter_append, List.filter_append, hi_nil hk hd, hd]
  simp [hs, hs2]
/-- A greater key. -/
theorem pout_more (hk : k.length = 32) (h : Rise (m ++ [q])) (hq : kless q.1 k = false) (hne : q.1 ≠ k) :
    pdone k (m ++ [q]) = true ∧ pout k x (m ++ [q]) = (if pdone k m then pout k x m ++ [q] else pout k x m ++ [(k, x)] ++ [q]) := by
  have h2 : kless k q.1 = true := by
    rcases klt.total (h.1 q (by simp)).1 hk hne with h1 | h1
    · rw [kless_iff.2 h1] at hq; cases hq
    · exact kless_iff.2 h1
  refine ⟨by rw [pdone_app, hq]; simp, ?_⟩
  unfold pout
  rw [pdone_app, hq, List.filter_append, List.filter_append]
  cases hd : pdone k m
  · rw [hi_nil hk hd]
    simp [hq, h2]
  · simp [hq, h2]
theorem pout_fin (hk : k.length = 32) : pfin k x m = if pdone k m then pout k x m else pout k x m ++ [(k, x)] := by
  unfold pfin pout
  cases hd : pdone k m
  · rw [hi_nil hk hd]; simp
  · simp
theorem pout_ok (hk : k.length = 32) (hx : x.length = 32) (h : ∀ p ∈ m, p.1.length = 32 ∧ p.2.length = 32) : ∀ p ∈ pout k x m, p.1.length = 32 ∧ p.2.length = 32 := by
  intro p hp
  unfold pout at hp
  simp only [List.mem_append, List.mem_filter] at hp
  rcases hp with (hp | hp) | hp
  · exact h p hp.1
  · split at hp
    · simp at hp; subst hp; exact ⟨hk, hx⟩
    · simp at hp
  · exact h p hp.1
theorem pout_length : (pout k x m).length ≤ 2 * m.length + 1 := by
  unfold pout
  have h1 := List.length_filter_le (fun q : Pr => kless q.1 k) m
  have h2 := List.length_filter_le (fun q : Pr => kless k q.1) m
  simp only [List.length_append]
  split <;> simp <;> omega
theorem pfin_rise (hk : k.length = 32) (hx : x.length = 32) (h : Rise m) : Rise (pfin k x m) := by
  constructor
  · intro p hp
    simp only [pfin, List.mem_append, List.mem_filter, List.mem_singleton] at hp
    rcases hp with (hp | rfl) | hp
    · exact h.1 p hp.1
    · exact ⟨hk, hx⟩
    · exact h.1 p hp.1
  · unfold pfin
    rw [List.pairwise_append, List.pairwise_append]
    refine ⟨⟨h.2.filter _, List.pairwise_singleton _ _, fun a ha b hb => ?_⟩, h.2.filter _, fun a ha b hb => ?_⟩
    · simp at hb; subst hb
      exact kless_iff.1 (List.mem_filter.1 ha).2
    · have hb2 := kless_iff.1 (List.mem_filter.1 hb).2
      rcases List.mem_append.1 ha with ha | ha
      · exact (kless_iff.1 (List.mem_filter.1 ha).2).trans hb2
      · simp at ha; subst ha; exact hb2
theorem mem_pfin (hk : k.length = 32) (h : Rise m) (p : Pr) : p ∈ pfin k x m ↔ p = (k, x) ∨ (p ∈ m ∧ p.1 ≠ k) := by
  simp only [pfin, List.mem_append, List.mem_filter, List.mem_singleton]
  constructor
  · rintro ((⟨h1, h2⟩ | rfl) | ⟨h1, h2⟩)
    · exact .inr ⟨h1, (kless_iff.1 h2).ne⟩
    · exact .inl rfl
    · exact .inr ⟨h1, fun e => (kless_iff.1 h2).ne e.symm⟩
  · rintro (rfl | ⟨h1, h2⟩)
    · exact .inl (.inr rfl)
    · rcases klt.total (h.1 p h1).1 hk h2 with h3 | h3
      · exact .inl (.inl ⟨h1, kless_iff.2 h3⟩)
      · exact .inr ⟨h1, kless_iff.2 h3⟩
end
theorem Ok.rise {t : Tr} {d : Nat} {P : Nat → Bool} (ok : Ok d P t) : Rise t.pairs := ⟨fun p hp => ⟨(Ok.keys ok p hp).1, (Ok.keys ok p hp).2.1⟩, ok.sorted⟩
/-- The list's put is the tree's. -/
theorem pfin_tree {k x : List UInt8} {t : Tr} {P : Nat → Bool} (hk : k.length = 32) (hx : x.length = 32) (ok : Ok 0 P t) : pfin k x t.pairs = (ins k x 256 0 t).pairs := by
  have hi := ins_ok k x hk hx 256 0 t P (by omega) (fun i hi => by omega) ok
  refine sorted_ext (pfin_rise hk hx ok.rise).2 hi.sorted fun p => ?_
  rw [mem_pfin hk ok.rise, ins_pairs k x hk 256 0 t P (by omega) (fun i hi => by omega) ok]
end Go.Proofs.Ytpalomkcgfalnaa
namespace Go.Proofs.Ytpalomkcgfalnaa
open Go Go.RowKit Sh
set_option maxRecDepth 100000 in
set_option maxHeartbeats 1000000 in
theorem less_any (a b : List UInt8) (ha : a.length = 32) (hb : b.length = 32) (w : World) :
    Calls Try.prog 32 #[A8 a, A8 b] w fun e w' => e = .returned (.bool (kless a b)) ∧ Below w.heap.size w w' := by
  go_enter Try.func32, Try.ntmps32
  go_wp2_with fail
  obtain ⟨w0, hw0⟩ : ∃ x, x = (w.alloc (.cells (c8 a).toArray 25)).alloc (.cells (c8 b).toArray 25) := ⟨_, rfl⟩
  rw [← hw0]
  have B0 : Below w.heap.size w w0 := by rw [hw0]; exact ((Below.refl _ _).alloc (Nat.le_refl _) _).alloc (by simp) _
  have K0 : Bk w0 w.heap.size 25 (c8 a) := by rw [hw0]; exact (Bk.new _ _ _).alloc _
  have V0 : Bk w0 (w.heap.size + 1) 25 (c8 b) := by rw [hw0]; have := Bk.new (w.alloc (.cells (c8 a).toArray 25)) 25 (c8 b); simpa using this
  clear hw0
  go_loopw [6] (fun t wr => ∃ i : Nat, i ≤ 32 ∧ t = .int .i64 (i : Int) ∧ (∀ j, j < i → g8 a j = g8 b j) ∧ Bk wr w.heap.size 25 (c8 a) ∧ Bk wr (w.heap.size + 1) 25 (c8 b) ∧ Below w.heap.size w wr) (fun t _ => 32 - (intOf t).toNat)
  case atStart => exact ⟨0, by omega, rfl, fun j hj => by omega, K0, V0, B0⟩
  case round =>
    clear K0 V0 B0
    obtain ⟨i, hi, rfl, he, K, V, B⟩ := hrel
    by_cases hlt : i < 32
    · have ca : wr.cell? ⟨w.heap.size, i, none⟩ = some (.int .u8 (n8 (g8 a i))) := K.at_ (c8_at (by omega))
      have cb : wr.cell? ⟨w.heap.size + 1, i, none⟩ = some (.int .u8 (n8 (g8 b i))) := V.at_ (c8_at (by omega))
      have hl : Hid (g8 a i ≠ g8 b i → decide (g8 a i < g8 b i) = kless a b) := Lib.hid fun h => kless_byte hlt he h
      have hs : Hid (g8 a i = g8 b i → ∀ j, j < i + 1 → g8 a j = g8 b j) := Lib.hid fun h j hj => by
        by_cases hji : j < i
        · exact he j hji
        · rw [show j = i by omega]; exact h
      clear he
      generalize g8 a i = x at *
      generalize g8 b i = y at *
      by_cases hxy : x = y
      · have hne : (n8 x != n8 y) = false := by rw [n8_bne]; simp [hxy]
        go_wp2_with fail
        go_quiet (fail)
        go_wp2_with fail
        go_round
        case rel => exact ⟨i + 1, by omega, by go_num, hs.out hxy, K.drewN nq, V.drewN nq, below_drewN B nq⟩
        case measure => simp [intOf]; omega
      · have hne : (n8 x != n8 y) = true := by rw [n8_bne]; simp [hxy]
        go_wp2_with fail
        go_quiet (fail)
        go_wp2_with fail
        go_quiet (fail)
        go_wp2_with fail
        go_ret
        refine ⟨?_, below_drewN (below_drewN B _) _⟩
        rw [← hl.out hxy]
        have hlt8 : decide (n8 x < n8 y) = decide (x < y) := by
          unfold n8
          simp only [UInt8.lt_iff_toNat_lt]
          simp
        rw [← hlt8]
        rfl
    · obtain rfl : i = 32 := by omega
      have hab : a = b := eq_of_bytes ha hb he
      clear he
      have e : ((32 : Nat) : Int) = 32 := rfl
      rw [e]
      go_wp2_with fail
      go_ret
      refine ⟨?_, B⟩
      rw [hab, kless_self]
      rfl
set_option maxRecDepth 100000 in
set_option maxHeartbeats 1000000 in
theorem refget_any (k : List UInt8) (hk : k.length = 32) (t : Tr) (P : Nat → Bool) (ok : Ok 0 P t) (v : Value) (w : World) (hv : Ps w 0 w.heap.size v t.pairs) :
    Calls Try.prog 29 #[v, A8 k] w fun e w' => e = .returned (getRes (t.look k 0)) ∧ Below w.heap.size w w' := by
  have hsome : ∀ x, t.look k 0 = some x ↔ (k, x) ∈ t.pairs := fun x => look_some (k := k) (v := x) ok
  have Hsome := Lib.hid hsome
  clear hsome
  obtain ⟨l, hl⟩ : ∃ l, l = t.pairs := ⟨_, rfl⟩
  have HL := Lib.hid hl
  rw [← hl] at hv
  clear hl
  have hlok := hv.1
  obtain ⟨A, c, hv1, hc1, hc2⟩ := hv.form
  have hsub := hv.sub
  subst hv1
  go_enter Try.func29, Try.ntmps29
  go_wp2_with fail
  obtain ⟨w0, hw0⟩ : ∃ x, x = (w.alloc (.cells (c8 k).toArray 25)).alloc (.cells (c8 (z8 32)).toArray 25) := ⟨_, rfl⟩
  rw [← hw0]
  have B0 : Below w.heap.size w w0 := by rw [hw0]; exact ((Below.refl _ _).alloc (Nat.le_refl _) _).alloc (by simp) _
  have K0 : Bk w0 w.heap.size 25 (c8 k) := by rw [hw0]; exact (Bk.new _ _ _).alloc _
  have V0 : Bk w0 (w.heap.size + 1) 25 (c8 (z8 32)) := by rw [hw0]; have := Bk.new (w.alloc (.cells (c8 k).toArray 25)) 25 (c8 (z8 32)); simpa using this
  clear hw0
  go_loopw [10] (fun t wr => ∃ i : Nat, i ≤ l.length ∧ t = .int .i64 (i : Int) ∧ (∀ j p, j < i → l[j]? = some p → p.1 ≠ k) ∧ Bk wr w.heap.size 25 (c8 k) ∧ Bk wr (w.heap.size + 1) 25 (c8 (z8 32)) ∧ Below w.heap.size w wr) (fun t _ => l.length - (intOf t).toNat)
  case atStart => exact ⟨0, by omega, rfl, fun j p hj => by omega, K0, V0, B0⟩
  case round =>
    clear K0 V0 B0
    obtain ⟨i, hi, rfl, he, K, V, B⟩ := hrel
    have z0 := V.lt
    have hcan : canAt wr ⟨w.heap.size + 1, 0, none⟩ 32 = true := V.can (by simp)
    by_cases hlt : i < l.length
    · obtain ⟨p, hp⟩ : ∃ p, l[i]? = some p := ⟨_, List.getElem?_eq_getElem hlt⟩
      have hpk := hlok p (List.mem_of_getElem? hp)
      obtain ⟨g, o, c', hs⟩ := hsub
      rcases hs with ⟨hrow, _, hg, hA, _, _⟩ | hs
      · injection hA with hA _ _
        subst hA
        have hr := (hrow i p hp).1
        have hrw : rowAt wr ⟨g, o + i * 64, none⟩ 64 = some (c8 (pb p)) := (rowAt_below B hg).trans hr
        have hstep : Hid (p.1 ≠ k → ∀ j q, j < i + 1 → l[j]? = some q → q.1 ≠ k) := Lib.hid fun h j q hj hq => by
          by_cases hji : j < i
          · exact he j q hji hq
          · obtain rfl : j = i := by omega
            rw [hp] at hq; injection hq with hq; subst hq; exact h
        have hmem : Hid (p ∈ l) := Lib.hid (List.mem_of_getElem? hp)
        have hlen := hpk.len
        clear he hrow hr hp hlok
        have hok1 := hpk.1
        have hok2 := hpk.2
        have hrk : rowAt (putAt (wr.alloc (Obj.cells (c8 (z8 64)).toArray 36)) ⟨wr.heap.size, 0, none⟩ (c8 (pb p))) ⟨w.heap.size, 0, none⟩ 32 = some (c8 k) := by
          have := ((K.alloc (Obj.cells (c8 (z8 64)).toArray 36)).putFar (p := ⟨wr.heap.size, 0, none⟩) (by simp; have := K.lt; omega) (c8 (pb p))).rows
          rwa [length_c8, hk] at this
        by_cases hpk2 : p.1 = k
        · have hne : (p.1 == k) = true := by simp [hpk2]
          go_wp2_with fail
          have V2 := ((V.alloc (Obj.cells (c8 (z8 64)).toArray 36)).putFar (p := ⟨wr.heap.size, 0, none⟩) (by simp; omega) (c8 (pb p))).puts (vs := c8 p.2) (by simp [hok2])
          refine bodyPost_ret (results_two rfl (ResAt.row V2 rfl _ Try.underlying25 rfl (by simp [info_h32, hok2])) (ResAt.tmp rfl)) rfl ⟨?_, below_putAt (below_putAt (B.alloc B.size _) (by simp; exact B.size) _) (by simp) _⟩
          have := (Hsome.out p.2).2 (by rw [← HL.out, ← hpk2]; exact hmem.out)
          rw [this]
          rfl
        · have hne : (p.1 == k) = false := by simp [hpk2]
          go_wp2_with fail
          go_roundw
          case rel => exact ⟨i + 1, by omega, by go_num, hstep.out hpk2, (K.alloc (Obj.cells (c8 (z8 64)).toArray 36)).putFar (p := ⟨wr.heap.size, 0, none⟩) (by simp; have := K.lt; omega) (c8 (pb p)), (V.alloc (Obj.cells (c8 (z8 64)).toArray 36)).putFar (p := ⟨wr.heap.size, 0, none⟩) (by simp; omega) (c8 (pb p)), below_putAt (B.alloc B.size _) (by simp; exact B.size) _⟩
          case measure => simp [intOf]; omega
      · subst hs; simp at hlt
    · obtain rfl : i = l.length := by omega
      have hnone : t.look k 0 = none := by
        cases h : t.look k 0 with
        | none => rfl
        | some x =>
          have := (Hsome.out x).1 h
          rw [← HL.out] at this
          obtain ⟨j, hj⟩ := List.getElem?_of_mem this
          exact absurd rfl (he j _ (List.getElem?_eq_some_iff.1 hj).1 hj)
      clear he hsub
      go_wp2_with fail
      refine bodyPost_ret (results_two rfl (ResAt.row (V.puts (vs := c8 (z8 32)) (by simp)) rfl _ Try.underlying25 rfl (by simp [info_h32])) (ResAt.tmp rfl)) rfl ⟨?_, below_putAt B (by simp) _⟩
      rw [hnone]
      rfl
theorem Rise.take {l : List Pr} (h : Rise l) (n : Nat) : Rise (l.take n) := ⟨fun p hp => h.1 p (List.mem_of_mem_take hp), h.2.sublist (List.take_sublist _ _)⟩
theorem take_step {α : Type} {l : List α} {i : Nat} {q : α} (h : l[i]? = some q) : l.take (i + 1) = l.take i ++ [q] := by rw [List.take_add_one, h]; rfl
set_option maxRecDepth 100000 in
set_option maxHeartbeats 2000000 in
theorem refput_list (k x : List UInt8) (hk : k.length = 32) (hx : x.length = 32) (l : List Pr) (hl : Rise l) (hsz : l.length ≤ 274877906944) (v : Value) (w : World) (hv : Ps w 0 w.heap.size v l) :
    Calls Try.prog 21 #[v, A8 (pb (k, x))] w fun e w' => ∃ u, e = .returned u ∧ OwnP w' w.heap.size u (pfin k x l) ∧ Below w.heap.size w w' := by
  obtain ⟨A, c, hv1, hc1, hc2⟩ := hv.form
  have hsub := hv.sub
  subst hv1
  have hpok : PrOk (k, x) := ⟨hk, hx⟩
  have hplen := hpok.len
  go_enter Try.func21, Try.ntmps21
  go_wp2_with fail
  obtain ⟨w0, hw0⟩ : ∃ y, y = w.alloc (.cells (c8 (pb (k, x))).toArray 36) := ⟨_, rfl⟩
  rw [← hw0]
  have B0 : Below w.heap.size w w0 := by rw [hw0]; exact (Below.refl _ _).alloc (Nat.le_refl _) _
  have K0 : Bk w0 w.heap.size 36 (c8 (pb (k, x))) := by rw [hw0]; exact Bk.new _ _ _
  have z0 := K0.lt
  clear hw0
  go_loopw [5, 6, 11] (fun u d t wr => ∃ i : Nat, i ≤ l.length ∧ t = .int .i64 (i : Int) ∧ d = .bool (pdone k (l.take i)) ∧ OwnP wr (w.heap.size + 1) u (pout k x (l.take i)) ∧ Bk wr w.heap.size 36 (c8 (pb (k, x))) ∧ Below w.heap.size w wr) (fun _ _ t _ => l.length - (intOf t).toNat)
  case atStart =>
    refine ⟨0, by omega, rfl, ?_, ?_, K0, B0⟩
    · simp [pdone]
    · have : pout k x (l.take 0) = [] := by simp [pout, pdone]
      rw [this]
      exact OwnP.nil _ _
  case round =>
    clear K0 B0
    obtain ⟨i, hi, rfl, rfl, O, K, B⟩ := hrel
    have z1 := K.lt
    by_cases hlt : i < l.length
    · obtain ⟨q, hp⟩ : ∃ p, l[i]? = some p := ⟨_, List.getElem?_eq_getElem hlt⟩
      have hqok : PrOk q := hl.1 q (List.mem_of_getElem? hp)
      have hrise := hl.take (i + 1)
      have htk := take_step hp
      rw [htk] at hrise
      have hlen := pout_length (k := k) (x := x) (m := l.take i)
      have hml : (l.take i).length = i := by simp; omega
      rw [hml] at hlen
      obtain ⟨g, o, c', hs⟩ := hsub
      rcases hs with ⟨hrow, _, hg, hA, _, _⟩ | hs
      · injection hA with hA _ hA3
        subst hA hA3
        have hr := (hrow i q hp).1
        have hrw : rowAt wr ⟨g, o + i * 64, none⟩ 64 = some (c8 (pb q)) := (rowAt_below B hg).trans hr
        have Hnext : Hid (l.take (i + 1) = l.take i ++ [q]) := Lib.hid htk
        have Hrise := Lib.hid hrise
        clear hrow hr hp hrise htk
        generalize l.take i = m at *
        have hq1 := hqok.1
        have hq2 := hqok.2
        have hqlen := hqok.len
        obtain ⟨o', co, rfl, ho1, ho2⟩ := O.form
        have hob : ∀ g', (Value.slice o' (pout k x m).length co).ownBlock = some g' → g' < wr.heap.size := fun g' h => (O.2.lt g' h).2
        obtain ⟨W, hW⟩ : ∃ y, y = putAt (wr.alloc (Obj.cells (c8 (z8 64)).toArray 36)) ⟨wr.heap.size, 0, none⟩ (c8 (pb q)) := ⟨_, rfl⟩
        have hBq : Below wr.heap.size wr W := by rw [hW]; exact below_putAt ((Below.refl _ _).alloc (Nat.le_refl _) _) (Nat.le_refl _) _
        have hWs : W.heap.size = wr.heap.size + 1 := by rw [hW]; simp
        have Q1 : Bk W wr.heap.size 36 (c8 (pb q)) := by rw [hW]; exact Bk.fresh wr _ (by simp [hqlen])
        have O1 := O.below hBq (Nat.le_refl _)
        have K1 := K.below hBq z1
        have B1 := below_two B hBq B.size
        have hkk := pair_key K1 hpok
        have hka := pair_all K1 hpok
        have hqk := pair_key Q1 hqok
        have hqa := pair_all Q1 hqok
        have z2 : w.heap.size + 1 ≤ W.heap.size := by omega
        have hrwW := hrw
        simp only at hkk
        cases hd : pdone k m
        · clear O K B hBq
          go_wp2_with fail
          rw [← hW]
          clear hW hrw hrwW
          simp only [hkk, Option.elim_some]
          go_wp2_with fail
          refine (less_any q.1 k hq1 hk W).mono ?_
          rintro e w2 ⟨rfl, h2⟩
          have Q2 := Q1.below h2 Q1.lt
          have K2 := K1.below h2 K1.lt
          have O2 := O1.below h2 (Nat.le_refl _)
          have B2 := below_two B1 h2 B1.size
          have hob2 : (Value.slice o' (pout k x m).length co).ownBlock ≠ some wr.heap.size := fun h => by have := hob _ h; omega
          have z3 : w.heap.size + 1 ≤ w2.heap.size := by have := h2.size; omega
          have hkk := pair_key K2 hpok
          have hka := pair_all K2 hpok
          have hqk := pair_key Q2 hqok
          have hqa := pair_all Q2 hqok
          simp only at hkk
          clear h2 Q1 K1 O1 B1 hob
          cases hls : kless q.1 k
          · by_cases hqe : q.1 = k
            · have hne : (q.1 == k) = true := by simp [hqe]
              have hst := pout_same (x := x) hk Hrise.out hqe
              go_wp2_with (at_builtin; refine appP rfl _ _ rfl rfl O2 (k, x) hpok _ rfl rfl rfl (by omega) z3 ?_; intro A3 c3 w3 hc31 hc32 hO3 hB3 hg3 hat3; have Q3 := Q2.grown hg3 (fun h => hob2 h.symm); have K3 := K2.below hB3 (by omega); have hkk3 := pair_key K3 hpok; have hqk3 := pair_key Q3 hqok; simp only at hkk3)
              go_roundw
              case rel => 
                exact ⟨i + 1, by omega, by go_num, by rw [Hnext.out, hst.2.1], by rw [Hnext.out, hst.2.2]; exact hO3, K3, B2.trans (hB3.mono (Nat.le_succ _))⟩
              case measure => simp [intOf]; omega
            · have hne : (q.1 == k) = false := by simp [hqe]
              have hst := pout_more (x := x) hk Hrise.out hls hqe
              rw [hd, if_neg (by simp)] at hst
              have hl3 : (pout k x m ++ [(k, x)]).length ≤ 1099511627776 := by simp; omega
              have hlx : (pout k x m ++ [(k, x)]).length = (pout k x m).length + 1 := by simp
              go_wp2_with (first | (at_builtin; refine appP rfl _ _ rfl rfl O2 (k, x) hpok _ rfl rfl rfl (by omega) z3 ?_; intro A3 c3 w3 hc31 hc32 hO3 hB3 hg3 hat3; have Q3 := Q2.grown hg3 (fun h => hob2 h.symm); have K3 := K2.below hB3 (by omega); have hkk3 := pair_key K3 hpok; have hqk3 := pair_key Q3 hqok; have hqa3 := pair_all Q3 hqok; have z4 : w.heap.size + 1 ≤ w3.heap.size := (by have := hB3.size; omega); simp only at hkk3) | (at_builtin; refine appP rfl _ _ rfl rfl hO3 q hqok _ rfl rfl rfl hl3 z4 ?_; intro A4 c4 w4 hc41 hc42 hO4 hB4 hg4 hat4; have hO4' := hO4; rw [hlx] at hO4'))
              go_roundw
              case rel => 
                exact ⟨i + 1, by omega, by go_num, by rw [Hnext.out, hst.1], by rw [Hnext.out, hst.2]; exact hO4', K3.below hB4 (by omega), (B2.trans (hB3.mono (Nat.le_succ _))).trans (hB4.mono (Nat.le_succ _))⟩
              case measure => simp [intOf]; omega
          · have hst := pout_less (x := x) hk Hrise.out hls
            go_wp2_with (at_builtin; refine appP rfl _ _ rfl rfl O2 q hqok _ rfl rfl rfl (by omega) z3 ?_; intro A3 c3 w3 hc31 hc32 hO3 hB3 hg3 hat3)
            go_roundw
            case rel => 
              exact ⟨i + 1, by omega, by go_num, by rw [Hnext.out, hst.2.1], by rw [Hnext.out, hst.2.2]; exact hO3, K2.below hB3 (by omega), B2.trans (hB3.mono (Nat.le_succ _))⟩
            case measure => simp [intOf]; omega
        · have hls : kless q.1 k = false := by
            cases hls : kless q.1 k with
            | false => rfl
            | true => have := (pout_less (x := x) hk Hrise.out hls).1; rw [hd] at this; cases this
          have hqe : q.1 ≠ k := fun e => by have := (pout_same (x := x) hk Hrise.out e).1; rw [hd] at this; cases this
          have hst := pout_more (x := x) hk Hrise.out hls hqe
          rw [hd, if_pos rfl] at hst
          rw [hW] at O1 z2 hWs
          go_wp2_with (at_builtin; refine appP rfl _ _ rfl rfl O1 q hqok _ rfl rfl hWs (by omega) z2 ?_; rw [← hW]; intro A3 c3 w3 hc31 hc32 hO3 hB3 hg3 hat3)
          go_roundw
          case rel => 
            exact ⟨i + 1, by omega, by go_num, by rw [Hnext.out, hst.1], by rw [Hnext.out, hst.2]; exact hO3, K1.below hB3 (by omega), B1.trans (hB3.mono (Nat.le_succ _))⟩
          case measure => simp [intOf]; omega
      · subst hs; simp at hlt
    · obtain rfl : i = l.length := by omega
      rw [List.take_length] at O ⊢
      have hfin := pout_fin (k := k) (x := x) (m := l) hk
      have hlen := pout_length (k := k) (x := x) (m := l)
      obtain ⟨o', co, rfl, ho1, ho2⟩ := O.form
      have hka := pair_all K hpok
      clear hsub
      cases hd : pdone k l
      · rw [hd, if_neg (by simp)] at hfin
        go_wp2_with (at_builtin; refine appP rfl _ _ rfl rfl O (k, x) hpok _ rfl rfl rfl (by omega) z1 ?_; intro A3 c3 w3 hc31 hc32 hO3 hB3 hg3 hat3)
        go_ret
        exact ⟨_, rfl, by rw [hfin]; exact hO3.less (by omega), B.trans (hB3.mono (Nat.le_succ _))⟩
      · rw [hd, if_pos rfl] at hfin
        go_wp2_with fail
        go_ret
        exact ⟨_, rfl, by rw [hfin]; exact O.less (by omega), B⟩
end Go.Proofs.Ytpalomkcgfalnaa
namespace Go.Proofs.Ytpalomkcgfalnaa
open Go Go.RowKit Sh
theorem refput_any (k x : List UInt8) (hk : k.length = 32) (hx : x.length = 32) (t : Tr) (P : Nat → Bool) (ok : Ok 0 P t) (hsz : t.len ≤ 274877906944) (v : Value) (w : World) (hv : Ps w 0 w.heap.size v t.pairs) :
    Calls Try.prog 21 #[v, A8 (pb (k, x))] w fun e w' => ∃ u, e = .returned u ∧ OwnP w' w.heap.size u (ins k x 256 0 t).pairs ∧ Below w.heap.size w w' := by
  rw [← pfin_tree hk hx ok]
  exact refput_list k x hk hx t.pairs ok.rise (by rw [← Tr.len_pairs]; exact hsz) v w hv
theorem By.of_row {w : World} {g o n : Nat} {l : List UInt8} (h : rowAt w ⟨g, o, none⟩ n = some (c8 l)) (hg : g < w.heap.size) (hn : n ≤ 9223372036854775807) : By w 0 w.heap.size (.slice (some ⟨g, o, none⟩) n n) l := by
  obtain ⟨h1, h2⟩ := rowAt_iff.1 h
  rw [length_c8] at h1
  subst h1
  exact By.mk_ (Nat.le_refl _) (by unfold maxLen; exact hn) (.inr ⟨g, o, rfl, Nat.zero_le _, hg, fun j u hj => h2 j u hj⟩)
def Apart (u v : Value) : Prop := ∀ g, u.ownBlock = some g → v.ownBlock ≠ some g
theorem Apart.symm {u v : Value} (h : Apart u v) : Apart v u := fun g h1 h2 => h g h2 h1
theorem OwnP.apart {w w' : World} {base : Nat} {u v : Value} {l : List Pr} (h : OwnP w base v l) (ha : Apart u v) (hg : w.grownBy w' u.ownBlock) : OwnP w' base v l := by
  refine h.kept hg ?_
  cases hv : v.ownBlock with
  | none => exact .inl rfl
  | some g => exact .inr fun e => ha g e.symm hv
theorem OwnP.newApart {w : World} {base : Nat} {u u' v : Value} {l : List Pr} (h : OwnP w base v l) (ha : Apart u v) (hu : u'.ownBlock = u.ownBlock ∨ u'.ownBlock = some w.heap.size ∨ u'.ownBlock = some (w.heap.size + 1)) : Apart u' v := fun g h1 h2 => by
  have h3 := (h.2.lt g h2).2
  rcases hu with e | e | e
  · exact ha g (e ▸ h1) h2
  · rw [e] at h1; injection h1 with h1; omega
  · rw [e] at h1; injection h1 with h1; omega
def side (b : Bool) (d : Nat) (m : List Pr) : List Pr := m.filter fun q => kbit q.1 d == b
theorem side_yes {b : Bool} {d : Nat} {m : List Pr} {q : Pr} (h : kbit q.1 d = b) : side b d (m ++ [q]) = side b d m ++ [q] := by simp [side, List.filter_append, h]
theorem side_no {b : Bool} {d : Nat} {m : List Pr} {q : Pr} (h : kbit q.1 d = !b) : side b d (m ++ [q]) = side b d m := by simp [side, List.filter_append, h]
theorem side_len (b : Bool) (d : Nat) (m : List Pr) : (side b d m).length ≤ m.length := List.length_filter_le _ _
theorem side_l {l r : Tr} {d : Nat} {P : Nat → Bool} (ok : Ok d P (.nd l r)) : side false d (Tr.nd l r).pairs = l.pairs := by
  unfold side
  simp only [Tr.pairs, List.filter_append]
  rw [List.filter_eq_self.2 (fun x hx => by simp [ok.left x hx]), List.filter_eq_nil_iff.2 (fun x hx => by simp [ok.right x hx]), List.append_nil]
theorem side_r {l r : Tr} {d : Nat} {P : Nat → Bool} (ok : Ok d P (.nd l r)) : side true d (Tr.nd l r).pairs = r.pairs := by
  unfold side
  simp only [Tr.pairs, List.filter_append]
  rw [List.filter_eq_nil_iff.2 (fun x hx => by simp [ok.left x hx]), List.filter_eq_self.2 (fun x hx => by simp [ok.right x hx]), List.nil_append]
set_option maxRecDepth 100000 in
set_option maxHeartbeats 4000000 in
theorem refroot_any (t : Tr) : ∀ (d : Nat) (di : Int) (P : Nat → Bool) (v : Value) (w : World), di = (d : Int) → Ok d P t → d ≤ 256 → t.len ≤ 274877906944 → Ps w 0 w.heap.size v t.pairs →
    Calls Try.prog 24 #[v, .int .i64 di] w fun e w' => e = .returned (A8 t.root) ∧ Below w.heap.size w w' := by
  induction t with
  | e =>
    intro d di P v w hdi ok hd hlen hv
    obtain ⟨A, c, hv1, hc1, hc2⟩ := hv.form
    subst hv1
    go_enter Try.func24, Try.ntmps24
    go_wp2_with fail
    exact bodyPost_ret (results_row rfl _ _ _ _ _ _ rfl ((Bk.new w _ _).puts (vs := c8 (z8 32)) (by simp)) Try.underlying25 rfl (by simp [info_h32])) rfl ⟨rfl, below_putAt ((Below.refl _ _).alloc (Nat.le_refl _) _) (Nat.le_refl _) _⟩
  | lf k x =>
    intro d di P v w hdi ok hd hlen hv
    have hk := ok.1
    have hx := ok.2.1
    obtain ⟨A, c, hv1, hc1, hc2⟩ := hv.form
    have hsub := hv.sub
    have e1 : (Tr.lf k x).pairs.length = 1 := rfl
    rw [e1] at hv1 hc1
    rw [e1] at hsub
    subst hv1
    obtain ⟨g, o, c', hs⟩ := hsub
    rcases hs with ⟨hrow, _, hg, hA, _, _⟩ | hs
    · injection hA with hA _ hA3
      subst hA hA3
      have hr := hrow 0 (k, x) rfl
      obtain ⟨_, hrk, hrx⟩ := hr
      simp only [Nat.zero_mul, Nat.add_zero] at hrk hrx
      clear hrow
      go_enter Try.func24, Try.ntmps24
      go_wp2_with fail
      obtain ⟨w0, hw0⟩ : ∃ y, y = w.alloc (Obj.cells (c8 (z8 32)).toArray 25) := ⟨_, rfl⟩
      rw [← hw0]
      have B0 : Below w.heap.size w w0 := by rw [hw0]; exact (Below.refl _ _).alloc (Nat.le_refl _) _
      have R0 : Bk w0 w.heap.size 25 (c8 (z8 32)) := by rw [hw0]; exact Bk.new _ _ _
      have hzl : w0.heap.size = w.heap.size + 1 := by rw [hw0]; simp
      clear hw0
      have z0 := R0.lt
      refine wp_hoist (A := ?A) (fun W => Below w.heap.size w0 W) [1, 2, 3, 4, 5, 6, 7, 8] [0, 9, 10, 11] (by kernel_rfl) (by kernel_rfl) (by kernel_rfl) (by kernel_rfl) rfl rfl (by kernel_rfl) (by kernel_rfl) ?hS (fun W hW => ?h) (fun hS => ?t)
      case hS => exact (Below.refl _ _).drew
      case h =>
        simp only [pick, List.getElem?_cons_zero, List.getElem?_cons_succ]
        repeat (go_big_quiet_step (fail))
        refine wpQuiet_nil ?_
        rfl
      case t =>
        simp only [pick, List.getElem?_cons_zero, List.getElem?_cons_succ]
        refine wpTail_step (by rfl) (fun Q' hQ' => ?_)
        go_wp2
        obtain ⟨w1, hw1⟩ : ∃ x, x = (w0.alloc (Obj.cells #[Value.int IntKind.u8 0] 5)).drew := ⟨_, rfl⟩
        rw [← hw1]
        have B1 : Below w0.heap.size w0 w1 := by rw [hw1]; exact ((Below.refl _ _).alloc (Nat.le_refl _) _).drew
        have y0 : By w1 0 w1.heap.size (.slice (some ⟨w0.heap.size, 0, none⟩) 1 1) [0] := by rw [hw1]; exact (By.build w0 5 (0, 0) [0] (by simp)).more (by simp)
        refine hQ' _ _ (B1.mono B0.size) ?_
        clear hw1 hQ' hS
        refine wpTail_step (by rfl) (fun Q' hQ' => ?_)
        go_wp2
        rw [hzl] at y0 B1
        obtain ⟨w2, hw2⟩ : ∃ x, x = w1.alloc (Obj.cells #[.slice (some ⟨w.heap.size + 1, 0, none⟩) 1 1, .slice (some ⟨g, o, none⟩) 32 32, .slice (some ⟨g, o + 32, none⟩) 32 32] 22) := ⟨_, rfl⟩
        rw [← hw2]
        have zb := B1.size
        have B2 : Below (w.heap.size + 1) w0 w2 := by rw [hw2]; exact B1.alloc (by omega) _
        have B01 : Below w.heap.size w w1 := B0.trans (B1.mono (Nat.le_succ _))
        have yk : By w1 0 w1.heap.size (.slice (some ⟨g, o, none⟩) 32 32) k := By.of_row ((rowAt_below B01 hg).trans hrk) (by omega) (by omega)
        have yv : By w1 0 w1.heap.size (.slice (some ⟨g, o + 32, none⟩) 32 32) x := By.of_row ((rowAt_below B01 hg).trans hrx) (by omega) (by omega)
        have p2 : Parts w2 w2.heap.size (.slice (some ⟨w1.heap.size, 0, none⟩) 3 3) [[0], k, x] := by
          rw [hw2]
          have := Parts.three w1 22 _ _ _ _ _ _ y0 yk yv
          simpa using this
        refine hQ' _ _ (B2.mono (Nat.le_succ _)) ?_
        clear hw2 hQ' y0 yk yv
        refine wpTail_step (by rfl) (fun Q' hQ' => ?_)
        go_wp2_with fail
        refine (refsum_any _ [[0], k, x] w2 p2 (by simp [hk, hx])).mono ?_
        rintro e w3 ⟨rfl, hb3⟩
        have zb2 := B2.size
        have B3 := B2.trans (hb3.mono (B' := w.heap.size + 1) (by omega))
        have hroot : [[0], k, x].flatten = [0] ++ k ++ x := by simp
        rw [hroot]
        have hl := length_sum32 ([0] ++ k ++ x)
        have hr1 : (Tr.lf k x).root = sum32 ([0] ++ k ++ x) := rfl
        have Hr1 := Lib.hid hr1
        clear hr1
        generalize sum32 ([0] ++ k ++ x) = r at *
        clear hb3 p2 hroot
        have R3 := R0.below B3 (by omega)
        have hcan : canAt w3 ⟨w.heap.size, 0, none⟩ 32 = true := R3.can (by simp)
        go_wp2_with fail
        refine hQ' _ _ (B3.mono (Nat.le_succ _)) ?_
        clear hQ'
        refine wpTail_step (by rfl) (fun Q' hQ' => ?_)
        go_wp2_with fail
        refine hQ' _ _ (below_putAt (B3.mono (Nat.le_succ _)) (by simp) _) ?_
        clear hQ'
        refine wpTail_nil ?_
        go_wp2_with fail
        refine bodyPost_ret (results_row rfl _ _ _ _ _ _ rfl (R3.puts (vs := c8 r) (by simp [hl])) Try.underlying25 rfl (by simp [info_h32, hl])) rfl ⟨?_, below_putAt (B0.trans (B3.mono (Nat.le_succ _))) (by simp) _⟩
        rw [Hr1.out]
        rfl
    · cases hs
  | nd l r ihl ihr =>
    intro d di P v w hdi ok hd hlen hv
    have hd2 := ok.1
    have hl2 := ok.2.1
    have hlenp : (Tr.nd l r).pairs.length = l.len + r.len := by rw [← Tr.len_pairs]; rfl
    have hlen' : l.len + r.len ≤ 274877906944 := hlen
    have hsl : Hid (side false d (Tr.nd l r).pairs = l.pairs) := Lib.hid (side_l ok)
    have hsr : Hid (side true d (Tr.nd l r).pairs = r.pairs) := Lib.hid (side_r ok)
    have hroot : Hid ((Tr.nd l r).root = sum32 ([1] ++ l.root ++ r.root)) := Lib.hid rfl
    have hrl := Tr.root_length l
    have hrr := Tr.root_length r
    obtain ⟨A, c, hv1, hc1, hc2⟩ := hv.form
    have hsub := hv.sub
    have hlok := hv.1
    generalize hL : (Tr.nd l r).pairs = L at *
    clear hv hL
    subst hv1
    have hL2 : 2 ≤ L.length := by omega
    have hLm : L.length ≤ 274877906944 := by omega
    clear hlenp
    have hne0 : ((L.length : Int) == 0) = false := by rw [beq_eq_false_iff_ne]; omega
    have hne1 : ((L.length : Int) == 1) = false := by rw [beq_eq_false_iff_ne]; omega
    go_enter Try.func24, Try.ntmps24
    go_wp2_with fail
    obtain ⟨w0, hw0⟩ : ∃ y, y = w.alloc (Obj.cells (c8 (z8 32)).toArray 25) := ⟨_, rfl⟩
    rw [← hw0]
    have B0 : Below w.heap.size w w0 := by rw [hw0]; exact (Below.refl _ _).alloc (Nat.le_refl _) _
    have R0 : Bk w0 w.heap.size 25 (c8 (z8 32)) := by rw [hw0]; exact Bk.new _ _ _
    clear hw0
    have z0 := R0.lt
    subst hdi
    go_loopw [5, 6, 31] (fun u1 u2 t wr => ∃ i : Nat, i ≤ L.length ∧ t = .int .i64 (i : Int) ∧ OwnP wr (w.heap.size + 1) u1 (side false d (L.take i)) ∧ OwnP wr (w.heap.size + 1) u2 (side true d (L.take i)) ∧ Apart u1 u2 ∧ Bk wr w.heap.size 25 (c8 (z8 32)) ∧ Below w.heap.size w wr) (fun _ _ t _ => L.length - (intOf t).toNat)
    case atStart => exact ⟨0, by omega, rfl, OwnP.nil _ _, OwnP.nil _ _, (fun g h => (by cases h)), R0, B0⟩
    case round =>
      clear R0 B0
      obtain ⟨i, hi, rfl, O1, O2, hap, R, B⟩ := hrel
      have z1 := R.lt
      by_cases hlt : i < L.length
      · obtain ⟨q, hp⟩ : ∃ p, L[i]? = some p := ⟨_, List.getElem?_eq_getElem hlt⟩
        have hqok : PrOk q := hlok q (List.mem_of_getElem? hp)
        have htk := take_step hp
        have hlen1 := side_len false d (L.take i)
        have hlen2 := side_len true d (L.take i)
        have hml : (L.take i).length = i := by simp; omega
        rw [hml] at hlen1 hlen2
        obtain ⟨g, o, c', hs⟩ := hsub
        rcases hs with ⟨hrow, _, hg, hA, _, _⟩ | hs
        · injection hA with hA _ hA3
          subst hA hA3
          have hr := (hrow i q hp).1
          have hrw : rowAt wr ⟨g, o + i * 64, none⟩ 64 = some (c8 (pb q)) := (rowAt_below B hg).trans hr
          have Hnext : Hid (L.take (i + 1) = L.take i ++ [q]) := Lib.hid htk
          clear hrow hr hp htk
          generalize L.take i = m at *
          have hq1 := hqok.1
          have hq2 := hqok.2
          have hqlen := hqok.len
          obtain ⟨W, hW⟩ : ∃ y, y = putAt (wr.alloc (Obj.cells (c8 (z8 64)).toArray 36)) ⟨wr.heap.size, 0, none⟩ (c8 (pb q)) := ⟨_, rfl⟩
          have hBq : Below wr.heap.size wr W := by rw [hW]; exact below_putAt ((Below.refl _ _).alloc (Nat.le_refl _) _) (Nat.le_refl _) _
          have hWs : W.heap.size = wr.heap.size + 1 := by rw [hW]; simp
          have Q1 : Bk W wr.heap.size 36 (c8 (pb q)) := by rw [hW]; exact Bk.fresh wr _ (by simp [hqlen])
          have P1 := O1.below hBq (Nat.le_refl _)
          have P2 := O2.below hBq (Nat.le_refl _)
          have R1 := R.below hBq z1
          have B1 := below_two B hBq B.size
          clear hBq O1 O2 R B
          go_wp2_with fail
          rw [← hW]
          clear hW hrw
          refine (refbit_any q.1 d hq1 hd2 W).mono ?_
          rintro e w2 ⟨rfl, h2⟩
          have Q2 := Q1.below h2 Q1.lt
          have R2 := R1.below h2 R1.lt
          have S1 := P1.below h2 (Nat.le_refl _)
          have S2 := P2.below h2 (Nat.le_refl _)
          have B2 := below_two B1 h2 B1.size
          have z3 : w.heap.size + 1 ≤ w2.heap.size := by have := h2.size; omega
          have hqa := pair_all Q2 hqok
          clear h2 Q1 R1 P1 P2 B1
          obtain ⟨o1, co1, rfl, _, _⟩ := S1.form
          obtain ⟨o2, co2, rfl, _, _⟩ := S2.form
          cases hb : kbit q.1 d
          · have e1 := side_yes (m := m) hb
            have e2 := side_no (b := true) (m := m) hb
            simp only [bitInt]
            go_wp2_with (at_builtin; refine appP rfl _ _ rfl rfl S1 q hqok _ rfl rfl rfl (by omega) z3 ?_; intro A3 c3 w3 hc31 hc32 hO3 hB3 hg3 hat3)
            go_roundw
            case rel => exact ⟨i + 1, by omega, by go_num, by rw [Hnext.out, e1]; exact hO3, by rw [Hnext.out, e2]; exact S2.apart hap hg3, S2.newApart hap hat3, R2.below hB3 (by omega), B2.trans (hB3.mono (Nat.le_succ _))⟩
            case measure => simp [intOf]; omega
          · have e1 := side_no (b := false) (m := m) hb
            have e2 := side_yes (m := m) hb
            simp only [bitInt]
            go_wp2_with (at_builtin; refine appP rfl _ _ rfl rfl S2 q hqok _ rfl rfl rfl (by omega) z3 ?_; intro A3 c3 w3 hc31 hc32 hO3 hB3 hg3 hat3)
            go_roundw
            case rel => exact ⟨i + 1, by omega, by go_num, by rw [Hnext.out, e1]; exact S1.apart hap.symm hg3, by rw [Hnext.out, e2]; exact hO3, (S1.newApart hap.symm hat3).symm, R2.below hB3 (by omega), B2.trans (hB3.mono (Nat.le_succ _))⟩
            case measure => simp [intOf]; omega
        · subst hs; simp at hlt
      · obtain rfl : i = L.length := by omega
        rw [List.take_length] at O1 O2
        rw [hsl.out] at O1
        rw [hsr.out] at O2
        clear hsub hsl hsr hap
        go_wp2_with fail
        refine (ihl (d + 1) _ _ _ wr (by push_cast; rfl) ok.2.2.1 (by omega) (by omega) (O1.ps.less (Nat.zero_le _))).mono ?_
        rintro e w2 ⟨rfl, h2⟩
        have P2 := O2.below h2 (Nat.le_refl _)
        have R2 := R.below h2 R.lt
        have B2 := below_two B h2 B.size
        clear h2 O1 O2 R B
        go_wp2_with fail
        refine (ihr (d + 1) _ _ _ w2 (by push_cast; rfl) ok.2.2.2 (by omega) (by omega) (P2.ps.less (Nat.zero_le _))).mono ?_
        rintro e w3 ⟨rfl, h3⟩
        have R3 := R2.below h3 R2.lt
        have B3 := below_two B2 h3 B2.size
        clear h3 P2 R2 B2 z1
        have z1 := R3.lt
        generalize l.root = rl at *
        generalize r.root = rr at *
        go_wp2_with fail
        obtain ⟨w4, hw4⟩ : ∃ x, x = putAt (putAt ((w3.alloc (Obj.cells (c8 (z8 32)).toArray 25)).alloc (Obj.cells (c8 (z8 32)).toArray 25)) ⟨w3.heap.size, 0, none⟩ (c8 rl)) ⟨w3.heap.size + 1, 0, none⟩ (c8 rr) := ⟨_, rfl⟩
        rw [← hw4]
        have B4 : Below w.heap.size w w4 := by rw [hw4]; have := B3.size; exact below_putAt (below_putAt ((B3.alloc B3.size _).alloc (by simp; omega) _) (by exact B3.size) _) (by simp; omega) _
        have K4 : Bk w4 w3.heap.size 25 (c8 rl) := by rw [hw4]; exact (((Bk.new w3 _ _).alloc _).puts (by simp [hrl])).putFar (by simp) _
        have V4 : Bk w4 (w3.heap.size + 1) 25 (c8 rr) := by
          rw [hw4]
          have := (Bk.new (w3.alloc (Obj.cells (c8 (z8 32)).toArray 25)) 25 (c8 (z8 32))).putFar (p := ⟨w3.heap.size, 0, none⟩) (by simp) (c8 rl)
          exact Bk.puts (by simpa using this) (by simp [hrr])
        have R4 : Bk w4 w.heap.size 25 (c8 (z8 32)) := by rw [hw4]; exact (((R3.alloc _).alloc _).putFar (by simp; omega) _).putFar (by simp; omega) _
        have zv := V4.lt
        have hzl : w4.heap.size = w3.heap.size + 1 + 1 := by rw [hw4]; simp
        generalize w3.heap.size = gb at *
        clear hw4 B3 R3
        refine wp_hoist (A := ?A2) (fun W => Below w.heap.size w4 W) [1, 2] [0, 3, 4, 5] (by kernel_rfl) (by kernel_rfl) (by kernel_rfl) (by kernel_rfl) rfl rfl (by kernel_rfl) (by kernel_rfl) ?hS (fun W hW => ?h) (fun hS => ?t)
        case hS => exact (Below.refl _ _).drew
        case h =>
          simp only [pick, List.getElem?_cons_zero, List.getElem?_cons_succ]
          repeat (go_big_quiet_step (fail))
          refine wpQuiet_nil ?_
          rfl
        case t =>
          simp only [pick, List.getElem?_cons_zero, List.getElem?_cons_succ]
          clear hzl
          refine wpTail_step (by rfl) (fun Q' hQ' => ?_)
          go_wp2
          obtain ⟨w5, hw5⟩ : ∃ x, x = (w4.alloc (Obj.cells #[Value.int IntKind.u8 1] 5)).drew := ⟨_, rfl⟩
          rw [← hw5]
          have B5 : Below w4.heap.size w4 w5 := by rw [hw5]; exact ((Below.refl _ _).alloc (Nat.le_refl _) _).drew
          have y0 : By w5 0 w5.heap.size (.slice (some ⟨w4.heap.size, 0, none⟩) 1 1) [1] := by rw [hw5]; exact (By.build w4 5 (0, 0) [1] (by simp)).more (by simp)
          refine hQ' _ _ (B5.mono B4.size) ?_
          clear hw5 hQ' hS
          refine wpTail_step (by rfl) (fun Q' hQ' => ?_)
          go_wp2
          obtain ⟨w6, hw6⟩ : ∃ x, x = w5.alloc (Obj.cells #[.slice (some ⟨w4.heap.size, 0, none⟩) 1 1, .slice (some ⟨gb, 0, none⟩) 32 32, .slice (some ⟨gb + 1, 0, none⟩) 32 32] 22) := ⟨_, rfl⟩
          rw [← hw6]
          have B6 : Below w4.heap.size w4 w6 := by rw [hw6]; exact B5.alloc B5.size _
          have yk : By w5 0 w5.heap.size (.slice (some ⟨gb, 0, none⟩) 32 32) rl := (K4.below B5 (by omega)).whole 32 hrl (by omega)
          have yv : By w5 0 w5.heap.size (.slice (some ⟨gb + 1, 0, none⟩) 32 32) rr := (V4.below B5 (by omega)).whole 32 hrr (by omega)
          have p6 : Parts w6 w6.heap.size (.slice (some ⟨w5.heap.size, 0, none⟩) 3 3) [[1], rl, rr] := by
            rw [hw6]
            have := Parts.three w5 22 _ _ _ _ _ _ y0 yk yv
            simpa using this
          refine hQ' _ _ (B6.mono B4.size) ?_
          clear hw6 hQ' y0 yk yv
          refine wpTail_step (by rfl) (fun Q' hQ' => ?_)
          go_wp2_with fail
          refine (refsum_any _ [[1], rl, rr] w6 p6 (by simp [hrl, hrr])).mono ?_
          rintro e w7 ⟨rfl, hb7⟩
          have B7 := below_two B6 hb7 B6.size
          have hfl : [[1], rl, rr].flatten = [1] ++ rl ++ rr := by simp
          rw [hfl]
          have hln := length_sum32 ([1] ++ rl ++ rr)
          rw [← hroot.out] at hln ⊢
          clear hb7 p6 hfl
          have R7 := R4.below B7 (by omega)
          have hcan : canAt w7 ⟨w.heap.size, 0, none⟩ 32 = true := R7.can (by simp)
          generalize hX : (Tr.nd l r).root = rt at *
          have HX := Lib.hid hX
          clear hX
          go_wp2_with fail
          refine hQ' _ _ (B7.mono B4.size) ?_
          clear hQ'
          refine wpTail_step (by rfl) (fun Q' hQ' => ?_)
          go_wp2_with fail
          refine hQ' _ _ (below_putAt (B7.mono B4.size) (by simp) _) ?_
          clear hQ'
          refine wpTail_nil ?_
          go_wp2_with fail
          refine bodyPost_ret (results_row rfl _ _ _ _ _ _ rfl (R7.puts (vs := c8 rt) (by simp [hln])) Try.underlying25 rfl (by simp [info_h32, hln])) rfl ⟨?_, below_putAt (below_two B4 B7 B4.size) (by simp) _⟩
          first | rfl | (rw [HX.out]; rfl)
end Go.Proofs.Ytpalomkcgfalnaa
namespace Go.Proofs.Ytpalomkcgfalnaa
open Sh
def P0 : Nat → Bool := fun _ => false
def Okt (t : Tr) : Prop := Ok 0 P0 t
def put1 (t : Tr) (k v : List UInt8) : Tr := ins k v 256 0 t
def PrOk' (p : Pr) : Prop := p.1.length = 32 ∧ p.2.length = 32
def puts (l : List Pr) (t : Tr) : Tr := l.foldl (fun t p => put1 t p.1 p.2) t
section
variable {t : Tr} {k v : List UInt8}
theorem Okt.put (ok : Okt t) (hk : k.length = 32) (hv : v.length = 32) : Okt (put1 t k v) := ins_ok k v hk hv 256 0 t P0 (by omega) (fun i hi => by omega) ok
theorem mem_put1 (ok : Okt t) (hk : k.length = 32) (x : Pr) : x ∈ (put1 t k v).pairs ↔ x = (k, v) ∨ (x ∈ t.pairs ∧ x.1 ≠ k) := ins_pairs k v hk 256 0 t P0 (by omega) (fun i hi => by omega) ok x
theorem len_put1 (ok : Okt t) (hk : k.length = 32) : (put1 t k v).len ≤ t.len + 1 := by
  unfold put1
  rw [ins_len k v hk 256 0 t P0 (by omega) (fun i hi => by omega) ok]
  split <;> omega
theorem len_put1_old (ok : Okt t) (hk : k.length = 32) (h : ∃ x ∈ t.pairs, x.1 = k) : (put1 t k v).len = t.len := by
  unfold put1
  rw [ins_len k v hk 256 0 t P0 (by omega) (fun i hi => by omega) ok, if_pos h]; rfl
theorem Okt.nil : Okt .e := trivial
theorem Okt.key_uniq (ok : Okt t) {x y : Pr} (hx : x ∈ t.pairs) (hy : y ∈ t.pairs) (h : x.1 = y.1) : x = y := by
  have hs := ok.sorted
  obtain ⟨i, hi⟩ := List.getElem?_of_mem hx
  obtain ⟨j, hj⟩ := List.getElem?_of_mem hy
  have hil := (List.getElem?_eq_some_iff.1 hi).1
  have hjl := (List.getElem?_eq_some_iff.1 hj).1
  rw [List.getElem?_eq_getElem hil] at hi; injection hi with hi
  rw [List.getElem?_eq_getElem hjl] at hj; injection hj with hj
  rw [List.pairwise_iff_getElem] at hs
  rcases Nat.lt_trichotomy i j with h1 | h1 | h1
  · have := (hs i j hil hjl h1).ne
    rw [hi, hj] at this; exact absurd h this
  · subst h1; rw [← hi, ← hj]
  · have := (hs j i hjl hil h1).ne
    rw [hi, hj] at this; exact absurd h.symm this
/-- Putting what is there changes nothing. -/
theorem put1_same (ok : Okt t) (hk : k.length = 32) (hv : v.length = 32) (h : (k, v) ∈ t.pairs) : put1 t k v = t := by
  refine Ok.ext_mem (ok.put hk hv) ok fun x => ?_
  rw [mem_put1 ok hk]
  constructor
  · rintro (rfl | ⟨h1, _⟩)
    · exact h
    · exact h1
  · intro hx
    by_cases e : x.1 = k
    · exact .inl (ok.key_uniq hx h e)
    · exact .inr ⟨hx, e⟩
/-- Putting a value over another one is putting it. -/
theorem put1_over (ok : Okt t) (hk : k.length = 32) {u : List UInt8} (hv : v.length = 32) (hu : u.length = 32) : put1 (put1 t k u) k v = put1 t k v := by
  refine Ok.ext_mem ((ok.put hk hu).put hk hv) (ok.put hk hv) fun x => ?_
  rw [mem_put1 (ok.put hk hu) hk, mem_put1 ok hk, mem_put1 ok hk]
  constructor
  · rintro (h | ⟨h | h, h2⟩)
    · exact .inl h
    · exact absurd (by rw [h]) h2
    · exact .inr h
  · rintro (h | h)
    · exact .inl h
    · exact .inr ⟨.inr h, h.2⟩
end
theorem puts_app (l : List Pr) (p : Pr) (t : Tr) : puts (l ++ [p]) t = put1 (puts l t) p.1 p.2 := by simp [puts]
theorem Okt.puts {l : List Pr} (h : ∀ p ∈ l, PrOk' p) : ∀ {t : Tr}, Okt t → Okt (puts l t) := by
  induction l with
  | nil => intro t ok; exact ok
  | cons p l ih => intro t ok; exact ih (fun q hq => h q (by simp [hq])) (ok.put (h p (by simp)).1 (h p (by simp)).2)
theorem len_puts {l : List Pr} (h : ∀ p ∈ l, PrOk' p) : ∀ {t : Tr}, Okt t → (puts l t).len ≤ t.len + l.length := by
  induction l with
  | nil => intro t ok; simp [Go.Proofs.Ytpalomkcgfalnaa.puts]
  | cons p l ih =>
    intro t ok
    have h1 := ih (fun q hq => h q (by simp [hq])) (ok.put (v := p.2) (h p (by simp)).1 (h p (by simp)).2)
    have h2 := len_put1 (v := p.2) ok (h p (by simp)).1
    have h3 : (Go.Proofs.Ytpalomkcgfalnaa.puts (p :: l) t).len = (Go.Proofs.Ytpalomkcgfalnaa.puts l (put1 t p.1 p.2)).len := rfl
    simp only [List.length_cons]
    omega
/-- One more of a rising list, in its order. -/
theorem fore_step {l : List Pr} (hl : Rise l) {A : Tr} (ok : Okt A) {i : Nat} {q : Pr} (hq : l[i]? = some q) (hA : ∀ x, x ∈ A.pairs ↔ x ∈ l.take i) (x : Pr) : x ∈ (put1 A q.1 q.2).pairs ↔ x ∈ l.take (i + 1) := by
  have hqk := (hl.1 q (List.mem_of_getElem? hq)).1
  rw [mem_put1 ok hqk, hA]
  have ht : l.take (i + 1) = l.take i ++ [q] := by rw [List.take_add_one, hq]; rfl
  rw [ht, List.mem_append, List.mem_singleton]
  have hp := hl.2
  have hsp : l.take i ++ [q] ++ l.drop (i + 1) = l := by rw [← ht, List.take_append_drop]
  rw [← hsp, List.append_assoc, List.pairwise_append] at hp
  constructor
  · rintro (h | ⟨h, _⟩)
    · exact .inr h
    · exact .inl h
  · rintro (h | h)
    · exact .inr ⟨h, (hp.2.2 x h q (by simp)).ne⟩
    · exact .inl h
/-- .. from its end. -/
theorem back_step {l : List Pr} (hl : Rise l) {B : Tr} (ok : Okt B) {i : Nat} {q : Pr} (hq : l[i]? = some q) {u : List UInt8} (hu : u.length = 32) (hB : ∀ x, x ∈ B.pairs ↔ x ∈ l.drop (i + 1)) (x : Pr) : x ∈ (put1 (put1 B q.1 u) q.1 q.2).pairs ↔ x ∈ l.drop i := by
  have hqk := hl.1 q (List.mem_of_getElem? hq)
  rw [put1_over ok hqk.1 hqk.2 hu, mem_put1 ok hqk.1, hB]
  have hil := (List.getElem?_eq_some_iff.1 hq).1
  have ht : l.drop i = q :: l.drop (i + 1) := by
    rw [List.drop_eq_getElem_cons hil]
    congr 1
    exact (List.getElem?_eq_some_iff.1 hq).2
  rw [ht, List.mem_cons]
  have hp := hl.2
  have hsp : l.take i ++ (q :: l.drop (i + 1)) = l := by rw [← ht, List.take_append_drop]
  rw [← hsp, List.pairwise_append, List.pairwise_cons] at hp
  constructor
  · rintro (h | ⟨h, _⟩)
    · exact .inl h
    · exact .inr h
  · rintro (h | h)
    · exact .inl h
    · exact .inr ⟨h, fun e => (hp.2.1.1 x h).ne e.symm⟩
theorem Okt.rise {t : Tr} (ok : Okt t) : Rise t.pairs := Ok.rise ok
theorem root_inj_put {t : Tr} {k v : List UInt8} (ok : Okt t) (hk : k.length = 32) (hv : v.length = 32) {u : List UInt8} (hu : u.length = 32) (h : (k, v) ∈ t.pairs) : put1 (put1 t k u) k v = t := by
  rw [put1_over ok hk hv hu, put1_same ok hk hv h]
end Go.Proofs.Ytpalomkcgfalnaa
