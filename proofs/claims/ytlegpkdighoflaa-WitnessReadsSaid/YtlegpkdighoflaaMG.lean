/- Pairs (64 bytes each) and slices of them. · Plain: keys compared byte by byte; putting a pair into a rising list is putting it into the tree. No program in sight. · The reference's Less, Get and Put over pairs. · The reference's Root over pairs is the tree's. · Plain: trees made by putting lists of pairs. No program in sight. -/
import Derived.Test.YtlegpkdighoflaaMF
import Derived.Test.YtlegpkdighoflaaMA
import Derived.Outline
import Derived.Test.YtlegpkdighoflaaME
set_option linter.unusedVariables false
set_option linter.unusedSimpArgs false
namespace Go.Proofs.Ytlegpkdighoflaa
open Go Go.RowKit Sh
/-- A pair's bytes. -/
def pb (p : Pr) : List UInt8 := p.1 ++ p.2
def PrOk (p : Pr) : Prop := p.1.length = 32 ∧ p.2.length = 32
theorem PrOk.len {p : Pr} (h : PrOk p) : (pb p).length = 64 := by unfold pb; rw [List.length_append, h.1, h.2]
def flat (l : List Pr) : List UInt8 := (l.map pb).flatten
theorem flat_append (l m : List Pr) : flat (l ++ m) = flat l ++ flat m := by simp [flat]
theorem flat_one (p : Pr) : flat [p] = pb p := by simp [flat]
theorem length_flat {l : List Pr} (h : ∀ p ∈ l, PrOk p) : (flat l).length = l.length * 64 := by
  induction l with
  | nil => rfl
  | cons p l ih =>
    have h1 := ih fun q hq => h q (by simp [hq])
    have h2 := (h p (by simp)).len
    simp only [flat, List.map_cons, List.flatten_cons, List.length_append, List.length_cons] at h1 h2 ⊢
    omega
theorem flat_at {l : List Pr} (h : ∀ p ∈ l, PrOk p) : ∀ {i : Nat} {p : Pr}, l[i]? = some p → ((flat l).drop (i * 64)).take 64 = pb p := by
  induction l with
  | nil => intro i p hp; simp at hp
  | cons q l ih =>
    intro i p hp
    have h2 := (h q (by simp)).len
    cases i with
    | zero =>
      simp at hp; subst hp
      simp only [flat, List.map_cons, List.flatten_cons, Nat.zero_mul, List.drop_zero]
      rw [← h2, List.take_left]
    | succ i =>
      have := ih (fun q hq => h q (by simp [hq])) (i := i) (p := p) (by simpa using hp)
      simp only [flat, List.map_cons, List.flatten_cons] at this ⊢
      rw [show (i + 1) * 64 = (pb q).length + i * 64 by omega, ← List.drop_drop, List.drop_left]
      exact this
/-- The slice value v reads as these pairs, in a block from lo to B. -/
def Ps (w : World) (lo B : Nat) (v : Value) (l : List Pr) : Prop := (∀ p ∈ l, PrOk p) ∧ ∃ A c, v = .slice A l.length c ∧ l.length ≤ c ∧ c ≤ maxLen ∧ Rd w lo B A (c8 (flat l))
section
variable {w w' : World} {lo lo' B B' : Nat} {v : Value} {l : List Pr}
theorem Ps.below (h : Ps w lo B v l) (hb : Below B w w') : Ps w' lo B v l := let ⟨h0, A, c, h1, h2, h3, h4⟩ := h; ⟨h0, A, c, h1, h2, h3, h4.below hb⟩
theorem Ps.more (h : Ps w lo B v l) (hB : B ≤ B') : Ps w lo B' v l := let ⟨h0, A, c, h1, h2, h3, h4⟩ := h; ⟨h0, A, c, h1, h2, h3, h4.more hB⟩
theorem Ps.less (h : Ps w lo B v l) (hB : lo' ≤ lo) : Ps w lo' B v l := let ⟨h0, A, c, h1, h2, h3, h4⟩ := h; ⟨h0, A, c, h1, h2, h3, h4.less hB⟩
theorem Ps.nil (w : World) (lo B : Nat) : Ps w lo B (.slice none 0 0) [] := ⟨by simp, none, 0, rfl, Nat.le_refl _, by simp [maxLen], .inl rfl⟩
theorem Ps.form (h : Ps w lo B v l) : ∃ A c, v = .slice A l.length c ∧ l.length ≤ c ∧ c ≤ 9223372036854775807 := by
  obtain ⟨_, A, c, h1, h2, h3, _⟩ := h; exact ⟨A, c, h1, h2, by unfold maxLen at h3; exact h3⟩
theorem Ps.sub (h : Ps w lo B v l) : ∃ g o c, (∀ i p, l[i]? = some p → rowAt w ⟨g, o + i * 64, none⟩ 64 = some (c8 (pb p)) ∧ rowAt w ⟨g, o + i * 64, none⟩ 32 = some (c8 p.1) ∧ rowAt w ⟨g, o + i * 64 + 32, none⟩ 32 = some (c8 p.2)) ∧ lo ≤ g ∧ g < B ∧ v = .slice (some ⟨g, o, none⟩) l.length c ∧ l.length ≤ c ∧ c ≤ 9223372036854775807 ∨ l = [] := by
  obtain ⟨h0, A, c, h1, h2, h3, h4⟩ := h
  rcases Nat.eq_zero_or_pos l.length with h5 | h5
  · exact ⟨0, 0, 0, .inr (List.eq_nil_of_length_eq_zero h5)⟩
  · obtain ⟨g, o, rfl, hl, hb, hc⟩ := h4.some (by rw [length_c8, length_flat h0]; omega)
    refine ⟨g, o, c, .inl ⟨fun i p hp => ?_, hl, hb, h1, h2, by unfold maxLen at h3; exact h3⟩⟩
    have hil : i < l.length := (List.getElem?_eq_some_iff.1 hp).1
    have hfl := length_flat h0
    have hat := flat_at h0 hp
    have hok := h0 p (List.mem_of_getElem? hp)
    have hcell : ∀ j, j < 64 → (c8 (pb p))[j]? = (c8 (flat l))[i * 64 + j]? := by
      intro j hj
      rw [← hat]
      simp only [c8, List.getElem?_map, List.getElem?_take, List.getElem?_drop, if_pos hj]
    have hk : ∀ j, j < 32 → (c8 (pb p))[j]? = (c8 p.1)[j]? := by
      intro j hj
      simp only [c8, pb, List.map_append]
      rw [List.getElem?_append_left (by simp [hok.1]; exact hj)]
    have hv : ∀ j, j < 32 → (c8 (pb p))[32 + j]? = (c8 p.2)[j]? := by
      intro j hj
      simp only [c8, pb, List.map_append]
      rw [List.getElem?_append_right (by simp [hok.1])]
      simp [hok.1]
    refine ⟨rowAt_iff.2 ⟨by rw [length_c8, hok.len], fun j u hj => ?_⟩, rowAt_iff.2 ⟨by rw [length_c8, hok.1], fun j u hj => ?_⟩, rowAt_iff.2 ⟨by rw [length_c8, hok.2], fun j u hj => ?_⟩⟩
    · have hj6 : j < 64 := by have := (List.getElem?_eq_some_iff.1 hj).1; rw [length_c8, hok.len] at this; exact this
      rw [Nat.add_assoc]
      exact hc _ _ (by rw [← hcell j hj6]; exact hj)
    · have hj6 : j < 32 := by have := (List.getElem?_eq_some_iff.1 hj).1; rw [length_c8, hok.1] at this; exact this
      rw [Nat.add_assoc]
      exact hc _ _ (by rw [← hcell j (by omega), hk j hj6]; exact hj)
    · have hj6 : j < 32 := by have := (List.getElem?_eq_some_iff.1 hj).1; rw [length_c8, hok.2] at this; exact this
      rw [Nat.add_assoc, Nat.add_assoc]
      exact hc _ _ (by rw [← hcell (32 + j) (by omega), hv j hj6]; exact hj)
end
/-- The slice value v is the call's own (in a block from base on, or nil) and reads as these pairs. -/
def OwnP (w : World) (base : Nat) (v : Value) (l : List Pr) : Prop := (∀ p ∈ l, PrOk p) ∧ w.ownsRow base 26 64 v l.length (c8 (flat l))
theorem OwnP.nil (w : World) (base : Nat) : OwnP w base (.slice none 0 0) [] := ⟨by simp, World.ownsRow_nil w base _ _⟩
theorem OwnP.below {w w' : World} {base B : Nat} {v : Value} {l : List Pr} (h : OwnP w base v l) (hb : Below B w w') (hB : w.heap.size ≤ B) : OwnP w' base v l := by
  refine ⟨h.1, World.ownsRow.kept (row := none) h.2 ⟨hb.os, hb.tape, hb.output, hb.size, fun k hk _ => hb.block k (by omega)⟩ ?_⟩
  cases hv : v.ownBlock <;> simp
theorem OwnP.kept {w w' : World} {base : Nat} {v : Value} {l : List Pr} {row : Option Nat} (h : OwnP w base v l) (hg : w.grownBy w' row) (hne : v.ownBlock = none ∨ v.ownBlock ≠ row) : OwnP w' base v l := ⟨h.1, World.ownsRow.kept h.2 hg hne⟩
theorem OwnP.less {w : World} {base base' : Nat} {v : Value} {l : List Pr} (h : OwnP w base v l) (hb : base' ≤ base) : OwnP w base' v l := by
  refine ⟨h.1, h.2.1, ?_⟩
  rcases h.2.2 with h2 | ⟨g, cap, cur, hv, hg, r⟩
  · exact .inl h2
  · exact .inr ⟨g, cap, cur, hv, by omega, r⟩
theorem OwnP.alloc {w : World} {base : Nat} {v : Value} {l : List Pr} (h : OwnP w base v l) (o : Obj) : OwnP (w.alloc o) base v l := ⟨h.1, World.ownsRow.alloc h.2 o⟩
theorem OwnP.drewN {w : World} {base : Nat} {v : Value} {l : List Pr} (h : OwnP w base v l) (n : Nat) : OwnP (w.drewN n) base v l := h
theorem OwnP.ps {w : World} {base : Nat} {v : Value} {l : List Pr} (h : OwnP w base v l) : Ps w base w.heap.size v l := by
  refine ⟨h.1, ?_⟩
  rcases h.2.2 with ⟨rfl, hn⟩ | ⟨g, cap, cur, rfl, hbg, hh, hr, hm, hsz, ht⟩
  · rw [hn]
    have : l = [] := List.eq_nil_of_length_eq_zero hn
    subst this
    exact ⟨none, 0, rfl, Nat.le_refl _, by simp [maxLen], .inl rfl⟩
  · refine ⟨_, cap, rfl, hr, hm, .inr ⟨g, 0, rfl, hbg, (Array.getElem?_eq_some_iff.1 hh).1, fun j u hu => ?_⟩⟩
    have := h.2.cells (g := g) rfl j u hu
    rwa [addr_lit] at this
/-! ### The operations -/
theorem infoP : (Try.prog.info? 26).map (fun i => (i.zero, i.size, i.bytes)) = some (some (A8 (z8 64)), 64, 64) := by kernel_rfl
theorem sizeP : (Try.prog.info? 26).map (·.size) = some 64 := by kernel_rfl
theorem zeroP : ((Try.prog.info? 26).bind (·.zero)) = some (A8 (z8 64)) := by kernel_rfl
theorem fieldsP : Try.prog.underlying 26 = some (.struct (fieldsOf Try.prog 26)) := by kernel_rfl
theorem placesP (w : World) : (placesOf (fieldsOf Try.prog 26)).run Try.prog w = .ok #[(0, 32), (32, 32)] w := by kernel_rfl
def oneOp (n : Nat) (t : TypeId) (w : World) (raw : Result Next) : Value → Result Next
  | .agg cs => if cs.size = n then .ok (.value (.slice (some ⟨w.heap.size, 0, none⟩) 1 1)) (w.alloc (.cells cs t)) else raw
  | _ => raw
@[go_sem] theorem oneOp_A8 (n : Nat) (t : TypeId) (w : World) (raw : Result Next) (l : List UInt8) : oneOp n t w raw (A8 l) = if l.length = n then .ok (.value (.slice (some ⟨w.heap.size, 0, none⟩) 1 1)) (w.alloc (.cells (c8 l).toArray t)) else raw := by
  have e : oneOp n t w raw (A8 l) = if (c8 l).toArray.size = n then .ok (.value (.slice (some ⟨w.heap.size, 0, none⟩) 1 1)) (w.alloc (.cells (c8 l).toArray t)) else raw := rfl
  rw [e]
  simp only [List.size_toArray, length_c8]
theorem exec_one {P : Program} (w : World) (ρ : Operand → Value) (dst : Option Tmp) (ty : TypeId) (pos : String) (after : Array Edge) (guard : Option (Nat × Bool)) (t e n : Nat) (z : Value) (x : Operand)
    (ht : P.underlying t = some (.slice e)) (hi : (P.info? e).map (fun i => (i.zero, i.size, i.bytes)) = some (some z, n, n)) (hz : z.cells.size = n) (hn : n ≤ 16777216) (hp : n ≠ 0) :
    (execOp ρ { dst, op := .buildSlice t 1 #[(0, x)], type := ty, pos, after, guard }).run P w = oneOp n e w (rawOp P ρ { dst, op := .buildSlice t 1 #[(0, x)], type := ty, pos, after, guard } w) (ρ x) := by
  generalize hv : ρ x = v
  unfold oneOp
  split
  · rename_i cs
    split
    · rename_i hcs
      cases hq : P.info? e with
      | none => simp [hq] at hi
      | some i =>
        simp only [hq, Option.map_some, Option.some.injEq, Prod.mk.injEq] at hi
        obtain ⟨h1, h2, _⟩ := hi
        have hf : Instr.fill (fun i => some (i * n, n)) ((Array.range (1 * n)).map (fun j => z.cells[j % z.cells.size]!)) [(0, Value.agg cs)] = some cs := by
          have hsz : ((Array.range (1 * n)).map (fun j => z.cells[j % z.cells.size]!)).size = n := by simp
          generalize (Array.range (1 * n)).map (fun j => z.cells[j % z.cells.size]!) = m at *
          have h3 := fill_fits (fun i => some (i * n, n)) [(0, Value.agg cs)] [(0, cs.toList)] m.toList ⟨by simp [hcs], rfl, by simp [hcs, hsz], trivial⟩
          rw [Array.toArray_toList] at h3
          rw [h3]
          simp [putAll, putCells, hcs, hsz, List.drop_eq_nil_of_le]
        have hl' : ¬ (16777216 < n) := by omega
        have hr : (Instr.buildSlice t 1 #[(0, Value.agg cs)]).run P w = .ok (.slice (some ⟨w.heap.size, 0, none⟩) 1 1) (w.alloc (.cells cs e)) := by
          unfold Instr.buildSlice
          simp only [Sem.run_bind, run_underlying ht, Result.andThen_ok, sizeOf, typeInfo, Sem.run_pure]
          simp only [Nat.one_mul] at hf
          simp [hq, h2, hl', hp, zeroValue, typeInfo, h1, newRow]
          rw [hf]
          rfl
        simp only [execOp, List.map_toArray, List.map_cons, List.map_nil, hv, Sem.run_bind, hr, Result.andThen_ok, Sem.run_pure]
    · rfl
  · rfl
section
variable (w : World) (ρ : Operand → Value) (dst : Option Tmp) (ty : TypeId) (pos : String) (after : Array Edge) (guard : Option (Nat × Bool))
@[go_sem ↓ high] theorem load_pair (x : Operand) :
    (execOp ρ { dst, op := .load 26 x, type := ty, pos, after, guard }).run Try.prog w = loadOp 64 w (rawOp Try.prog ρ { dst, op := .load 26 x, type := ty, pos, after, guard } w) (ρ x) :=
  exec_load w ρ dst ty pos after guard 26 64 _ x (by decide) fieldsP rfl sizeP
@[go_sem ↓ high] theorem store_pair (x y : Operand) :
    (execOp ρ { dst, op := .store 26 x y, type := ty, pos, after, guard }).run Try.prog w = storeOp 64 w (rawOp Try.prog ρ { dst, op := .store 26 x y, type := ty, pos, after, guard } w) (ρ x) (ρ y) :=
  exec_store w ρ dst ty pos after guard 26 64 x y (by decide) sizeP
@[go_sem ↓ high] theorem alloc_pair :
    (execOp ρ { dst, op := .alloc 26, type := ty, pos, after, guard }).run Try.prog w = .ok (.value (.pointer (some ⟨w.heap.size, 0, none⟩))) (w.alloc (.cells (c8 (z8 64)).toArray 26)) :=
  exec_alloc w ρ dst ty pos after guard 26 (A8 (z8 64)) zeroP
@[go_sem ↓ high] theorem box_pair (x : Operand) :
    (execOp ρ { dst, op := .box 26 x, type := ty, pos, after, guard }).run Try.prog w = boxOp 26 w (rawOp Try.prog ρ { dst, op := .box 26 x, type := ty, pos, after, guard } w) (ρ x) := exec_box w ρ dst ty pos after guard 26 x
end
noncomputable def pairOp (w : World) (raw : Result Next) (k v : Value) : Result Next :=
  match asBytes k, asBytes v with
  | some k, some v => if k.length = 32 ∧ v.length = 32 then .ok (.value (A8 (pb (k, v)))) w else raw
  | _, _ => raw
@[go_sem] theorem pairOp_at (w : World) (raw : Result Next) (k v : List UInt8) (hk : k.length = 32) (hv : v.length = 32) : pairOp w raw (A8 k) (A8 v) = .ok (.value (A8 (pb (k, v)))) w := by
  unfold pairOp
  rw [asBytes_A8, asBytes_A8]
  simp [hk, hv]
theorem run_pair (k v : List UInt8) (hk : k.length = 32) (hv : v.length = 32) (w : World) : (Instr.build 26 #[(0, A8 k), (1, A8 v)]).run Try.prog w = .ok (A8 (pb (k, v))) w := by
  have hz : (A8 (z8 64)).cells.toList = c8 (z8 64) := rfl
  have hl : (c8 (z8 64)).length = 64 := by simp
  have h1 := run_build_struct fieldsP zeroP w (placesP w) #[(0, A8 k), (1, A8 v)] [(0, c8 k), (32, c8 v)] (by
    rw [hz, hl]
    exact ⟨by simp [hk], rfl, by simp [hk], by simp [hv], rfl, by simp [hv], trivial⟩)
  refine h1.trans (congrArg (fun (cs : List Value) => Result.ok (Value.agg cs.toArray) w) ?_)
  rw [hz]
  simp [putAll, putCells, hk, hv, List.take_append, List.drop_append, List.drop_eq_nil_of_le, List.take_of_length_le, pb, c8]
@[go_sem ↓ high] theorem build_pair (w : World) (ρ : Operand → Value) (dst : Option Tmp) (ty : TypeId) (pos : String) (after : Array Edge) (guard : Option (Nat × Bool)) (x y : Operand) :
    (execOp ρ { dst, op := .build 26 #[(0, x), (1, y)], type := ty, pos, after, guard }).run Try.prog w = pairOp w (rawOp Try.prog ρ { dst, op := .build 26 #[(0, x), (1, y)], type := ty, pos, after, guard } w) (ρ x) (ρ y) := by
  generalize hx : ρ x = a
  generalize hy : ρ y = b
  unfold pairOp
  split
  · rename_i k v h1 h2
    replace h1 := of_asBytes h1
    replace h2 := of_asBytes h2
    split
    · rename_i h
      refine exec_build w ρ dst ty pos after guard _ _ _ ?_
      simp only [List.map_toArray, List.map_cons, List.map_nil, hx, hy, h1, h2]
      exact run_pair k v h.1 h.2 w
    · rfl
  · rfl
section
variable {w : World} {g : Nat} {t : TypeId} {p : Pr}
theorem pair_key (h : Bk w g t (c8 (pb p))) (hp : PrOk p) : rowAt w ⟨g, 0, none⟩ 32 = some (c8 p.1) := by
  have := h.rowMid 0 32 (by rw [length_c8, hp.len]; omega)
  rw [this]; simp [pb, c8, hp.1]
theorem pair_val (h : Bk w g t (c8 (pb p))) (hp : PrOk p) : rowAt w ⟨g, 32, none⟩ 32 = some (c8 p.2) := by
  have := h.rowMid 32 32 (by rw [length_c8, hp.len]; omega)
  rw [this]; simp [pb, c8, hp.1, hp.2, List.take_of_length_le]
theorem pair_all (h : Bk w g t (c8 (pb p))) (hp : PrOk p) : rowAt w ⟨g, 0, none⟩ 64 = some (c8 (pb p)) := by
  have := h.rows
  rwa [length_c8, hp.len] at this
theorem Bk.fresh (w : World) (t : TypeId) {l m : List UInt8} (h : l.length = m.length) : Bk (putAt (w.alloc (.cells (c8 l).toArray t)) ⟨w.heap.size, 0, none⟩ (c8 m)) w.heap.size t (c8 m) := (Bk.new w t (c8 l)).puts (by simp [h])
@[go_sem] theorem fresh_key (w : World) (t : TypeId) (p : Pr) (hp : PrOk p) : rowAt (putAt (w.alloc (.cells (c8 (z8 64)).toArray t)) ⟨w.heap.size, 0, none⟩ (c8 (pb p))) ⟨w.heap.size, 0, none⟩ 32 = some (c8 p.1) := pair_key (Bk.fresh w t (by simp [hp.len])) hp
@[go_sem] theorem fresh_val (w : World) (t : TypeId) (p : Pr) (hp : PrOk p) : rowAt (putAt (w.alloc (.cells (c8 (z8 64)).toArray t)) ⟨w.heap.size, 0, none⟩ (c8 (pb p))) ⟨w.heap.size, 32, none⟩ 32 = some (c8 p.2) := pair_val (Bk.fresh w t (by simp [hp.len])) hp
@[go_sem] theorem fresh_pair (w : World) (t : TypeId) (p : Pr) (hp : PrOk p) : rowAt (putAt (w.alloc (.cells (c8 (z8 64)).toArray t)) ⟨w.heap.size, 0, none⟩ (c8 (pb p))) ⟨w.heap.size, 0, none⟩ 64 = some (c8 (pb p)) := pair_all (Bk.fresh w t (by simp [hp.len])) hp
@[go_sem] theorem boxed_key (w : World) (t : TypeId) (p : Pr) (hp : PrOk p) : rowAt (w.alloc (.cells (c8 (pb p)).toArray t)) ⟨w.heap.size, 0, none⟩ 32 = some (c8 p.1) := pair_key (Bk.new w t _) hp
@[go_sem] theorem boxed_val (w : World) (t : TypeId) (p : Pr) (hp : PrOk p) : rowAt (w.alloc (.cells (c8 (pb p)).toArray t)) ⟨w.heap.size, 32, none⟩ 32 = some (c8 p.2) := pair_val (Bk.new w t _) hp
end
section
variable {w : World} {base : Nat} {v : Value} {l : List Pr} {ops : Array Oper} {rest : List Oper} {o : Oper} {a : Act} {Q : Exit → Act → World → Prop}
theorem OwnP.form {w : World} {base : Nat} {v : Value} {l : List Pr} (h : OwnP w base v l) : ∃ A c, v = .slice A l.length c ∧ l.length ≤ c ∧ c ≤ 9223372036854775807 := h.ps.form
theorem below_of_grownP {w w' : World} {base : Nat} {v : Value} {l : List Pr} (hown : OwnP w base v l) (hg : w.grownBy w' v.ownBlock) (hb : base ≤ w.heap.size) : Below base w w' :=
  (Below.refl _ _).grown hg hb fun k hk => (hown.2.lt k hk).1
end
end Go.Proofs.Ytlegpkdighoflaa
namespace Go.Proofs.Ytlegpkdighoflaa
open Sh
theorem bits_lt : ∀ (n x y : Nat), x < y → y < 2 ^ n → ∃ j, j < n ∧ (∀ i, j < i → x.testBit i = y.testBit i) ∧ x.testBit j = false ∧ y.testBit j = true
  | 0, x, y, h, hy => by simp at hy; omega
  | n + 1, x, y, h, hy => by
    by_cases hh : x / 2 < y / 2
    · obtain ⟨j, h1, h2, h3, h4⟩ := bits_lt n (x / 2) (y / 2) hh (by rw [Nat.pow_succ] at hy; omega)
      refine ⟨j + 1, by omega, fun i hi => ?_, by rw [Nat.testBit_succ]; exact h3, by rw [Nat.testBit_succ]; exact h4⟩
      obtain ⟨i, rfl⟩ : ∃ i', i = i' + 1 := ⟨i - 1, by omega⟩
      rw [Nat.testBit_succ, Nat.testBit_succ]
      exact h2 i (by omega)
    · have he : x / 2 = y / 2 := by omega
      refine ⟨0, by omega, fun i hi => ?_, ?_, ?_⟩
      · obtain ⟨i, rfl⟩ : ∃ i', i = i' + 1 := ⟨i - 1, by omega⟩
        rw [Nat.testBit_succ, Nat.testBit_succ, he]
      · rw [Nat.testBit_zero]; simp; omega
      · rw [Nat.testBit_zero]; simp; omega
/-- The first byte in which they differ tells. -/
theorem klt_of_byte {a b : List UInt8} {i : Nat} (hi : i < 32) (he : ∀ j, j < i → g8 a j = g8 b j) (h : g8 a i < g8 b i) : klt a b := by
  obtain ⟨j, h1, h2, h3, h4⟩ := bits_lt 8 (g8 a i).toNat (g8 b i).toNat (UInt8.lt_iff_toNat_lt.1 h) (UInt8.toNat_lt _)
  refine ⟨8 * i + (7 - j), by omega, fun m hm => ?_, ?_, ?_⟩
  · rw [kbit_test, kbit_test]
    by_cases hmi : m / 8 < i
    · rw [he _ hmi]
    · rw [show m / 8 = i by omega]
      exact h2 _ (by omega)
  · rw [kbit_test, show (8 * i + (7 - j)) / 8 = i by omega, show 7 - (8 * i + (7 - j)) % 8 = j by omega]; exact h3
  · rw [kbit_test, show (8 * i + (7 - j)) / 8 = i by omega, show 7 - (8 * i + (7 - j)) % 8 = j by omega]; exact h4
open Classical in
noncomputable def kless (a b : List UInt8) : Bool := decide (klt a b)
theorem kless_iff {a b : List UInt8} : kless a b = true ↔ klt a b := by unfold kless; simp
theorem kless_byte {a b : List UInt8} {i : Nat} (hi : i < 32) (he : ∀ j, j < i → g8 a j = g8 b j) (h : g8 a i ≠ g8 b i) : decide (g8 a i < g8 b i) = kless a b := by
  by_cases hlt : g8 a i < g8 b i
  · rw [decide_eq_true hlt, kless_iff.2 (klt_of_byte hi he hlt)]
  · rw [decide_eq_false hlt]
    have h2 : g8 b i < g8 a i := by
      rw [UInt8.lt_iff_toNat_lt] at hlt ⊢
      have : (g8 a i).toNat ≠ (g8 b i).toNat := fun e => h (UInt8.toNat_inj.1 e)
      omega
    have h3 := klt_of_byte hi (fun j hj => (he j hj).symm) h2
    cases hk : kless a b with
    | false => rfl
    | true => exact absurd (kless_iff.1 hk) h3.asymm
theorem eq_of_bytes {a b : List UInt8} (ha : a.length = 32) (hb : b.length = 32) (h : ∀ j, j < 32 → g8 a j = g8 b j) : a = b := by
  apply List.ext_getElem (by omega)
  intro i h1 h2
  have := h i (by omega)
  unfold g8 at this
  simpa [h1, h2] using this
theorem kless_self (a : List UInt8) : kless a a = false := by
  cases h : kless a a with
  | false => rfl
  | true => exact absurd rfl (kless_iff.1 h).ne
/-! the reference's Put over a list -/
noncomputable def pdone (k : List UInt8) (m : List Pr) : Bool := m.any fun q => !kless q.1 k
noncomputable def pout (k x : List UInt8) (m : List Pr) : List Pr := (m.filter fun q => kless q.1 k) ++ (if pdone k m then [(k, x)] else []) ++ (m.filter fun q => kless k q.1)
noncomputable def pfin (k x : List UInt8) (m : List Pr) : List Pr := (m.filter fun q => kless q.1 k) ++ [(k, x)] ++ (m.filter fun q => kless k q.1)
def Rise (l : List Pr) : Prop := (∀ p ∈ l, p.1.length = 32 ∧ p.2.length = 32) ∧ l.Pairwise fun x y => klt x.1 y.1
section
variable {k x : List UInt8} {m : List Pr} {q : Pr}
theorem pdone_app : pdone k (m ++ [q]) = (pdone k m || !kless q.1 k) := by simp [pdone]
theorem done_less (hk : k.length = 32) (h : Rise (m ++ [q])) (hd : pdone k m = true) : klt k q.1 := by
  unfold pdone at hd
  rw [List.any_eq_true] at hd
  obtain ⟨r, hr, hn⟩ := hd
  have hrq : klt r.1 q.1 := (List.pairwise_append.1 h.2).2.2 r hr q (by simp)
  by_cases e : r.1 = k
  · rw [← e]; exact hrq
  · rcases klt.total (h.1 r (by simp [hr])).1 hk e with h1 | h1
    · rw [kless_iff.2 h1] at hn; cases hn
    · exact h1.trans hrq
theorem hi_nil (hk : k.length = 32) (hd : pdone k m = false) : (m.filter fun q => kless k q.1) = [] := by
  rw [List.filter_eq_nil_iff]
  intro r hr h
  have h2 : kless r.1 k = true := by
    cases h3 : kless r.1 k with
    | true => rfl
    | false =>
      have : pdone k m = true := by unfold pdone; rw [List.any_eq_true]; exact ⟨r, hr, by simp [h3]⟩
      rw [hd] at this; cases this
  exact (kless_iff.1 h).asymm (kless_iff.1 h2)
/-- A lesser key: it stays. -/
theorem pout_less (hk : k.length = 32) (h : Rise (m ++ [q])) (hq : kless q.1 k = true) : pdone k m = false ∧ pdone k (m ++ [q]) = false ∧ pout k x (m ++ [q]) = pout k x m ++ [q] := by
  have hd : pdone k m = false := by
    cases hd : pdone k m with
    | false => rfl
    | true => exact absurd (kless_iff.1 hq) (done_less hk h hd).asymm
  have hk2 : kless k q.1 = false := by
    cases h2 : kless k q.1 with
    | false => rfl
    | true => exact absurd (kless_iff.1 hq) (kless_iff.1 h2).asymm
  refine ⟨hd, by rw [pdone_app, hd, hq]; rfl, ?_⟩
  unfold pout
  rw [pdone_app, hd, hq, List.filter_append, List.filter_append, hi_nil hk hd]
  simp [hq, hk2]
/-- The key itself: it gives way. -/
theorem pout_same (hk : k.length = 32) (h : Rise (m ++ [q])) (hq : q.1 = k) : pdone k m = false ∧ pdone k (m ++ [q]) = true ∧ pout k x (m ++ [q]) = pout k x m ++ [(k, x)] := by
  have hd : pdone k m = false := by
    cases hd : pdone k m with
    | false => rfl
    | true => exact absurd hq.symm (done_less hk h hd).ne
  have hs : kless q.1 k = false := by rw [hq]; exact kless_self k
  have hs2 : kless k q.1 = false := by rw [hq]; exact kless_self k
  refine ⟨hd, by rw [pdone_app, hs]; simp, ?_⟩
  unfold pout
  rw [pdone_app, hs, List.filter_append, List.filter_append, hi_nil hk hd, hd]
  simp [hs, hs2]
/-- A greater key. -/
theorem pout_more (hk : k.length = 32) (h : Rise (m ++ [q])) (hq : kless q.1 k = false) (hne : q.1 ≠ k) :
    pdone k (m ++ [q]) = true ∧ pout k x (m ++ [q]) = (if pdone k m then pout k x m ++ [q] else pout k x m ++ [(k, x)] ++ [q]) := by
  have h2 : kless k q.1 = true := by
    rcases klt.total (h.1 q (by simp)).1 hk hne with h1 | h1
    · rw [kless_iff.2 h1] at hq; cases hq
    · exact kless_iff.2 h1
  refine ⟨by rw [pdone_app, hq]; simp, ?_⟩
  unfold pout
  rw [pdone_app, hq, List.filter_append, List.filter_append]
  cases hd : pdone k m
  · rw [hi_nil hk hd]
    simp [hq, h2]
  · simp [hq, h2]
theorem pout_fin (hk : k.length = 32) : pfin k x m = if pdone k m then pout k x m else pout k x m ++ [(k, x)] := by
  unfold pfin pout
  cases hd : pdone k m
  · rw [hi_nil hk hd]; simp
  · simp
theorem pout_ok (hk : k.length = 32) (hx : x.length = 32) (h : ∀ p ∈ m, p.1.length = 32 ∧ p.2.length = 32) : ∀ p ∈ pout k x m, p.1.length = 32 ∧ p.2.length = 32 := by
  intro p hp
  unfold pout at hp
  simp only [List.mem_append, List.mem_filter] at hp
  rcases hp with (hp | hp) | hp
  · exact h p hp.1
  · split at hp
    · simp at hp; subst hp; exact ⟨hk, hx⟩
    · simp at hp
  · exact h p hp.1
theorem pout_length : (pout k x m).length ≤ 2 * m.length + 1 := by
  unfold pout
  have h1 := List.length_filter_le (fun q : Pr => kless q.1 k) m
  have h2 := List.length_filter_le (fun q : Pr => kless k q.1) m
  simp only [List.length_append]
  split <;> simp <;> omega
theorem pfin_rise (hk : k.length = 32) (hx : x.length = 32) (h : Rise m) : Rise (pfin k x m) := by
  constructor
  · intro p hp
    simp only [pfin, List.mem_append, List.mem_filter, List.mem_singleton] at hp
    rcases hp with (hp | rfl) | hp
    · exact h.1 p hp.1
    · exact ⟨hk, hx⟩
    · exact h.1 p hp.1
  · unfold pfin
    rw [List.pairwise_append, List.pairwise_append]
    refine ⟨⟨h.2.filter _, List.pairwise_singleton _ _, fun a ha b hb => ?_⟩, h.2.filter _, fun a ha b hb => ?_⟩
    · simp at hb; subst hb
      exact kless_iff.1 (List.mem_filter.1 ha).2
    · have hb2 := kless_iff.1 (List.mem_filter.1 hb).2
      rcases List.mem_append.1 ha with ha | ha
      · exact (kless_iff.1 (List.mem_filter.1 ha).2).trans hb2
      · simp at ha; subst ha; exact hb2
theorem mem_pfin (hk : k.length = 32) (h : Rise m) (p : Pr) : p ∈ pfin k x m ↔ p = (k, x) ∨ (p ∈ m ∧ p.1 ≠ k) := by
  simp only [pfin, List.mem_append, List.mem_filter, List.mem_singleton]
  constructor
  · rintro ((⟨h1, h2⟩ | rfl) | ⟨h1, h2⟩)
    · exact .inr ⟨h1, (kless_iff.1 h2).ne⟩
    · exact .inl rfl
    · exact .inr ⟨h1, fun e => (kless_iff.1 h2).ne e.symm⟩
  · rintro (rfl | ⟨h1, h2⟩)
    · exact .inl (.inr rfl)
    · rcases klt.total (h.1 p h1).1 hk h2 with h3 | h3
      · exact .inl (.inl ⟨h1, kless_iff.2 h3⟩)
      · exact .inr ⟨h1, kless_iff.2 h3⟩
end
theorem Ok.rise {t : Tr} {d : Nat} {P : Nat → Bool} (ok : Ok d P t) : Rise t.pairs := ⟨fun p hp => ⟨(Ok.keys ok p hp).1, (Ok.keys ok p hp).2.1⟩, ok.sorted⟩
/-- The list's put is the tree's. -/
theorem pfin_tree {k x : List UInt8} {t : Tr} {P : Nat → Bool} (hk : k.length = 32) (hx : x.length = 32) (ok : Ok 0 P t) : pfin k x t.pairs = (ins k x 256 0 t).pairs := by
  have hi := ins_ok k x hk hx 256 0 t P (by omega) (fun i hi => by omega) ok
  refine sorted_ext (pfin_rise hk hx ok.rise).2 hi.sorted fun p => ?_
  rw [mem_pfin hk ok.rise, ins_pairs k x hk 256 0 t P (by omega) (fun i hi => by omega) ok]
end Go.Proofs.Ytlegpkdighoflaa
namespace Go.Proofs.Ytlegpkdighoflaa
open Go Go.RowKit Sh
theorem Rise.take {l : List Pr} (h : Rise l) (n : Nat) : Rise (l.take n) := ⟨fun p hp => h.1 p (List.mem_of_mem_take hp), h.2.sublist (List.take_sublist _ _)⟩
theorem take_step {α : Type} {l : List α} {i : Nat} {q : α} (h : l[i]? = some q) : l.take (i + 1) = l.take i ++ [q] := by rw [List.take_add_one, h]; rfl
end Go.Proofs.Ytlegpkdighoflaa
namespace Go.Proofs.Ytlegpkdighoflaa
open Go Go.RowKit Sh
theorem By.of_row {w : World} {g o n : Nat} {l : List UInt8} (h : rowAt w ⟨g, o, none⟩ n = some (c8 l)) (hg : g < w.heap.size) (hn : n ≤ 9223372036854775807) : By w 0 w.heap.size (.slice (some ⟨g, o, none⟩) n n) l := by
  obtain ⟨h1, h2⟩ := rowAt_iff.1 h
  rw [length_c8] at h1
  subst h1
  exact By.mk_ (Nat.le_refl _) (by unfold maxLen; exact hn) (.inr ⟨g, o, rfl, Nat.zero_le _, hg, fun j u hj => h2 j u hj⟩)
def Apart (u v : Value) : Prop := ∀ g, u.ownBlock = some g → v.ownBlock ≠ some g
theorem Apart.symm {u v : Value} (h : Apart u v) : Apart v u := fun g h1 h2 => h g h2 h1
theorem OwnP.apart {w w' : World} {base : Nat} {u v : Value} {l : List Pr} (h : OwnP w base v l) (ha : Apart u v) (hg : w.grownBy w' u.ownBlock) : OwnP w' base v l := by
  refine h.kept hg ?_
  cases hv : v.ownBlock with
  | none => exact .inl rfl
  | some g => exact .inr fun e => ha g e.symm hv
theorem OwnP.newApart {w : World} {base : Nat} {u u' v : Value} {l : List Pr} (h : OwnP w base v l) (ha : Apart u v) (hu : u'.ownBlock = u.ownBlock ∨ u'.ownBlock = some w.heap.size ∨ u'.ownBlock = some (w.heap.size + 1)) : Apart u' v := fun g h1 h2 => by
  have h3 := (h.2.lt g h2).2
  rcases hu with e | e | e
  · exact ha g (e ▸ h1) h2
  · rw [e] at h1; injection h1 with h1; omega
  · rw [e] at h1; injection h1 with h1; omega
def side (b : Bool) (d : Nat) (m : List Pr) : List Pr := m.filter fun q => kbit q.1 d == b
theorem side_yes {b : Bool} {d : Nat} {m : List Pr} {q : Pr} (h : kbit q.1 d = b) : side b d (m ++ [q]) = side b d m ++ [q] := by simp [side, List.filter_append, h]
theorem side_no {b : Bool} {d : Nat} {m : List Pr} {q : Pr} (h : kbit q.1 d = !b) : side b d (m ++ [q]) = side b d m := by simp [side, List.filter_append, h]
theorem side_len (b : Bool) (d : Nat) (m : List Pr) : (side b d m).length ≤ m.length := List.length_filter_le _ _
theorem side_l {l r : Tr} {d : Nat} {P : Nat → Bool} (ok : Ok d P (.nd l r)) : side false d (Tr.nd l r).pairs = l.pairs := by
  unfold side
  simp only [Tr.pairs, List.filter_append]
  rw [List.filter_eq_self.2 (fun x hx => by simp [ok.left x hx]), List.filter_eq_nil_iff.2 (fun x hx => by simp [ok.right x hx]), List.append_nil]
theorem side_r {l r : Tr} {d : Nat} {P : Nat → Bool} (ok : Ok d P (.nd l r)) : side true d (Tr.nd l r).pairs = r.pairs := by
  unfold side
  simp only [Tr.pairs, List.filter_append]
  rw [List.filter_eq_nil_iff.2 (fun x hx => by simp [ok.left x hx]), List.filter_eq_self.2 (fun x hx => by simp [ok.right x hx]), List.nil_append]
end Go.Proofs.Ytlegpkdighoflaa
namespace Go.Proofs.Ytlegpkdighoflaa
open Sh
def P0 : Nat → Bool := fun _ => false
def Okt (t : Tr) : Prop := Ok 0 P0 t
def put1 (t : Tr) (k v : List UInt8) : Tr := ins k v 256 0 t
def PrOk' (p : Pr) : Prop := p.1.length = 32 ∧ p.2.length = 32
def puts (l : List Pr) (t : Tr) : Tr := l.foldl (fun t p => put1 t p.1 p.2) t
section
variable {t : Tr} {k v : List UInt8}
theorem Okt.put (ok : Okt t) (hk : k.length = 32) (hv : v.length = 32) : Okt (put1 t k v) := ins_ok k v hk hv 256 0 t P0 (by omega) (fun i hi => by omega) ok
theorem mem_put1 (ok : Okt t) (hk : k.length = 32) (x : Pr) : x ∈ (put1 t k v).pairs ↔ x = (k, v) ∨ (x ∈ t.pairs ∧ x.1 ≠ k) := ins_pairs k v hk 256 0 t P0 (by omega) (fun i hi => by omega) ok x
theorem len_put1 (ok : Okt t) (hk : k.length = 32) : (put1 t k v).len ≤ t.len + 1 := by
  unfold put1
  rw [ins_len k v hk 256 0 t P0 (by omega) (fun i hi => by omega) ok]
  split <;> omega
theorem len_put1_old (ok : Okt t) (hk : k.length = 32) (h : ∃ x ∈ t.pairs, x.1 = k) : (put1 t k v).len = t.len := by
  unfold put1
  rw [ins_len k v hk 256 0 t P0 (by omega) (fun i hi => by omega) ok, if_pos h]; rfl
theorem Okt.nil : Okt .e := trivial
theorem Okt.key_uniq (ok : Okt t) {x y : Pr} (hx : x ∈ t.pairs) (hy : y ∈ t.pairs) (h : x.1 = y.1) : x = y := by
  have hs := ok.sorted
  obtain ⟨i, hi⟩ := List.getElem?_of_mem hx
  obtain ⟨j, hj⟩ := List.getElem?_of_mem hy
  have hil := (List.getElem?_eq_some_iff.1 hi).1
  have hjl := (List.getElem?_eq_some_iff.1 hj).1
  rw [List.getElem?_eq_getElem hil] at hi; injection hi with hi
  rw [List.getElem?_eq_getElem hjl] at hj; injection hj with hj
  rw [List.pairwise_iff_getElem] at hs
  rcases Nat.lt_trichotomy i j with h1 | h1 | h1
  · have := (hs i j hil hjl h1).ne
    rw [hi, hj] at this; exact absurd h this
  · subst h1; rw [← hi, ← hj]
  · have := (hs j i hjl hil h1).ne
    rw [hi, hj] at this; exact absurd h.symm this
/-- Putting what is there changes nothing. -/
theorem put1_same (ok : Okt t) (hk : k.length = 32) (hv : v.length = 32) (h : (k, v) ∈ t.pairs) : put1 t k v = t := by
  refine Ok.ext_mem (ok.put hk hv) ok fun x => ?_
  rw [mem_put1 ok hk]
  constructor
  · rintro (rfl | ⟨h1, _⟩)
    · exact h
    · exact h1
  · intro hx
    by_cases e : x.1 = k
    · exact .inl (ok.key_uniq hx h e)
    · exact .inr ⟨hx, e⟩
/-- Putting a value over another one is putting it. -/
theorem put1_over (ok : Okt t) (hk : k.length = 32) {u : List UInt8} (hv : v.length = 32) (hu : u.length = 32) : put1 (put1 t k u) k v = put1 t k v := by
  refine Ok.ext_mem ((ok.put hk hu).put hk hv) (ok.put hk hv) fun x => ?_
  rw [mem_put1 (ok.put hk hu) hk, mem_put1 ok hk, mem_put1 ok hk]
  constructor
  · rintro (h | ⟨h | h, h2⟩)
    · exact .inl h
    · exact absurd (by rw [h]) h2
    · exact .inr h
  · rintro (h | h)
    · exact .inl h
    · exact .inr ⟨.inr h, h.2⟩
end
theorem puts_app (l : List Pr) (p : Pr) (t : Tr) : puts (l ++ [p]) t = put1 (puts l t) p.1 p.2 := by simp [puts]
theorem Okt.puts {l : List Pr} (h : ∀ p ∈ l, PrOk' p) : ∀ {t : Tr}, Okt t → Okt (puts l t) := by
  induction l with
  | nil => intro t ok; exact ok
  | cons p l ih => intro t ok; exact ih (fun q hq => h q (by simp [hq])) (ok.put (h p (by simp)).1 (h p (by simp)).2)
theorem len_puts {l : List Pr} (h : ∀ p ∈ l, PrOk' p) : ∀ {t : Tr}, Okt t → (puts l t).len ≤ t.len + l.length := by
  induction l with
  | nil => intro t ok; simp [Go.Proofs.Ytlegpkdighoflaa.puts]
  | cons p l ih =>
    intro t ok
    have h1 := ih (fun q hq => h q (by simp [hq])) (ok.put (v := p.2) (h p (by simp)).1 (h p (by simp)).2)
    have h2 := len_put1 (v := p.2) ok (h p (by simp)).1
    have h3 : (Go.Proofs.Ytlegpkdighoflaa.puts (p :: l) t).len = (Go.Proofs.Ytlegpkdighoflaa.puts l (put1 t p.1 p.2)).len := rfl
    simp only [List.length_cons]
    omega
/-- One more of a rising list, in its order. -/
theorem fore_step {l : List Pr} (hl : Rise l) {A : Tr} (ok : Okt A) {i : Nat} {q : Pr} (hq : l[i]? = some q) (hA : ∀ x, x ∈ A.pairs ↔ x ∈ l.take i) (x : Pr) : x ∈ (put1 A q.1 q.2).pairs ↔ x ∈ l.take (i + 1) := by
  have hqk := (hl.1 q (List.mem_of_getElem? hq)).1
  rw [mem_put1 ok hqk, hA]
  have ht : l.take (i + 1) = l.take i ++ [q] := by rw [List.take_add_one, hq]; rfl
  rw [ht, List.mem_append, List.mem_singleton]
  have hp := hl.2
  have hsp : l.take i ++ [q] ++ l.drop (i + 1) = l := by rw [← ht, List.take_append_drop]
  rw [← hsp, List.append_assoc, List.pairwise_append] at hp
  constructor
  · rintro (h | ⟨h, _⟩)
    · exact .inr h
    · exact .inl h
  · rintro (h | h)
    · exact .inr ⟨h, (hp.2.2 x h q (by simp)).ne⟩
    · exact .inl h
/-- .. from its end. -/
theorem back_step {l : List Pr} (hl : Rise l) {B : Tr} (ok : Okt B) {i : Nat} {q : Pr} (hq : l[i]? = some q) {u : List UInt8} (hu : u.length = 32) (hB : ∀ x, x ∈ B.pairs ↔ x ∈ l.drop (i + 1)) (x : Pr) : x ∈ (put1 (put1 B q.1 u) q.1 q.2).pairs ↔ x ∈ l.drop i := by
  have hqk := hl.1 q (List.mem_of_getElem? hq)
  rw [put1_over ok hqk.1 hqk.2 hu, mem_put1 ok hqk.1, hB]
  have hil := (List.getElem?_eq_some_iff.1 hq).1
  have ht : l.drop i = q :: l.drop (i + 1) := by
    rw [List.drop_eq_getElem_cons hil]
    congr 1
    exact (List.getElem?_eq_some_iff.1 hq).2
  rw [ht, List.mem_cons]
  have hp := hl.2
  have hsp : l.take i ++ (q :: l.drop (i + 1)) = l := by rw [← ht, List.take_append_drop]
  rw [← hsp, List.pairwise_append, List.pairwise_cons] at hp
  constructor
  · rintro (h | ⟨h, _⟩)
    · exact .inl h
    · exact .inr h
  · rintro (h | h)
    · exact .inl h
    · exact .inr ⟨h, fun e => (hp.2.1.1 x h).ne e.symm⟩
theorem Okt.rise {t : Tr} (ok : Okt t) : Rise t.pairs := Ok.rise ok
theorem root_inj_put {t : Tr} {k v : List UInt8} (ok : Okt t) (hk : k.length = 32) (hv : v.length = 32) {u : List UInt8} (hu : u.length = 32) (h : (k, v) ∈ t.pairs) : put1 (put1 t k u) k v = t := by
  rw [put1_over ok hk hv hu, put1_same ok hk hv h]
end Go.Proofs.Ytlegpkdighoflaa
