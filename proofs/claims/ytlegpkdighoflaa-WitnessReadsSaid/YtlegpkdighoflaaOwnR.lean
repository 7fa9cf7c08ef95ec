/- Slices of the call's own, of elements of whatever size: append as a single step. Lists of hashes. -/
import Derived.Test.YtlegpkdighoflaaMG
import Derived.Maps.AppendAt
set_option linter.unusedVariables false
set_option linter.unusedSimpArgs false
namespace Go.Proofs.Ytlegpkdighoflaa
open Go Go.RowKit Sh
section
variable {w : World} {base : Nat} {v : Value} {e : TypeId} {sz n : Nat} {xs : List Value}
theorem ownsRow_form (h : w.ownsRow base e sz v n xs) : ∃ A c, v = .slice A n c ∧ n ≤ c ∧ c ≤ 9223372036854775807 := by
  rcases h.2 with ⟨rfl, rfl⟩ | ⟨g, cap, cur, rfl, _, _, h1, h2, _⟩
  · exact ⟨none, 0, rfl, Nat.le_refl _, by omega⟩
  · exact ⟨_, cap, rfl, h1, by unfold maxLen at h2; exact h2⟩
theorem ownsRow_below {w' : World} {B : Nat} (h : w.ownsRow base e sz v n xs) (hb : Below B w w') (hB : w.heap.size ≤ B) : w'.ownsRow base e sz v n xs := by
  refine World.ownsRow.kept (row := none) h ⟨hb.os, hb.tape, hb.output, hb.size, fun k hk _ => hb.block k (by omega)⟩ ?_
  cases hv : v.ownBlock <;> simp
theorem ownsRow_less {base' : Nat} (h : w.ownsRow base e sz v n xs) (hb : base' ≤ base) : w.ownsRow base' e sz v n xs := by
  refine ⟨h.1, ?_⟩
  rcases h.2 with h2 | ⟨g, cap, cur, hv, hg, r⟩
  · exact .inl h2
  · exact .inr ⟨g, cap, cur, hv, by omega, r⟩
theorem ownsRow_rd {n' c : Nat} {A : Option Addr} (h : w.ownsRow base e sz (.slice A n' c) n xs) : Rd w base w.heap.size A xs := by
  rcases h.2 with ⟨hv, hn⟩ | ⟨g, cap, cur, hv, hbg, hh, _⟩
  · subst hn
    exact .inl (List.eq_nil_of_length_eq_zero (by rw [h.1, Nat.zero_mul]))
  · have hA : A = Option.some ⟨g, 0, none⟩ := by injection hv
    subst hA
    refine .inr ⟨g, 0, rfl, hbg, (Array.getElem?_eq_some_iff.1 hh).1, fun j u hu => ?_⟩
    have := h.cells (g := g) rfl j u hu
    rwa [addr_lit] at this
/-- The own slice's own block keeps apart. -/
theorem ownsRow_apart {u : Value} {w' : World} (h : w.ownsRow base e sz v n xs) (ha : Apart u v) (hg : w.grownBy w' u.ownBlock) : w'.ownsRow base e sz v n xs := by
  refine World.ownsRow.kept h hg ?_
  cases hv : v.ownBlock with
  | none => exact .inl rfl
  | some g => exact .inr fun e => ha g e.symm hv
theorem ownsRow_newApart {u u' : Value} (h : w.ownsRow base e sz v n xs) (ha : Apart u v) (hu : u'.ownBlock = u.ownBlock ∨ u'.ownBlock = some w.heap.size ∨ u'.ownBlock = some (w.heap.size + 1)) : Apart u' v := fun g h1 h2 => by
  have h3 := (h.lt g h2).2
  rcases hu with e | e | e
  · exact ha g (e ▸ h1) h2
  · rw [e] at h1; injection h1 with h1; omega
  · rw [e] at h1; injection h1 with h1; omega
variable {P : Program} {ops : Array Oper} {rest : List Oper} {o : Oper} {a : Act} {Q : Exit → Act → World → Prop}
/-- append(s, x...): x read, nil or not. -/
theorem appR (t : TypeId) (z : Value) (bytes : Nat) (ht : P.underlying t = some (.slice e)) (hinf : (P.info? e).map (fun i => (i.zero, i.size, i.bytes)) = some (some z, sz, bytes)) (hzs : z.cells.size = sz) (hpos : 0 < sz) (hby : bytes ≤ 1024)
    (hgd : o.guard = none) (s x : Operand) (ho : o.op = .call { callee := .builtin .append, args := #[s, x], argTypes := #[t, t] })
    (hs : a.eval s = v) (hown : w.ownsRow base e sz v n xs) (A : Option Addr) (m c : Nat) (hx : a.eval x = .slice A m c) (ys : List Value) (hl : ys.length = m * sz) (lo B : Nat) (hrd : Rd w lo B A ys) (hone : ∀ u ∈ ys, u.oneCell' = true) (hsz : n + m ≤ 68719476736) (hb : base ≤ w.heap.size)
    (h : ∀ A' c' w', n + m ≤ c' → c' ≤ 9223372036854775807 → w'.ownsRow base e sz (.slice A' (n + m) c') (n + m) (xs ++ ys) → Below base w w' → w.grownBy w' v.ownBlock → ((Value.slice A' (n + m) c').ownBlock = v.ownBlock ∨ (Value.slice A' (n + m) c').ownBlock = some w.heap.size) → wpList P ops Q rest (a.put o.dst (.slice A' (n + m) c')) w') : wpList P ops Q (o :: rest) a w :=
  wpList_plain hgd fun _ hK => by
    obtain ⟨i0, hi0, hz0, hz1, hz2⟩ := info_parts hinf
    have hmul : (n + m) * bytes ≤ 140737488355328 := by
      have := Nat.mul_le_mul hsz hby
      omega
    have key : ∃ v' w', (Builtin.append_ #[t, t] o.type #[v, .slice A m c]).run P w = .ok v' w' ∧ w'.ownsRow base e sz v' (n + m) (xs ++ ys) ∧ w.grownBy w' v.ownBlock ∧ (v'.ownBlock = v.ownBlock ∨ v'.ownBlock = some w.heap.size) := by
      have some_ : ∀ ad : Addr, (∀ j u, ys[j]? = some u → w.cell? (ad.add j) = some u) → ∃ v' w', (Builtin.append_ #[t, t] o.type #[v, .slice (some ad) m c]).run P w = .ok v' w' ∧ w'.ownsRow base e sz v' (n + m) (xs ++ ys) ∧ w.grownBy w' v.ownBlock ∧ (v'.ownBlock = v.ownBlock ∨ v'.ownBlock = some w.heap.size) := by
        intro ad hc
        obtain ⟨v', w', h5, h6, h7, _, h8⟩ := run_append_own_at (P := P) w base t o.type e i0 z sz bytes ht hi0 hz0 hz1 hz2 hzs hpos v n xs hown ad m c ys hl hc hone (by simp only [maxLen]; omega) hmul hb
        exact ⟨v', w', h5, h6, h7, h8⟩
      rcases hrd with hy | ⟨g, of, rfl, _, _, hc⟩
      · subst hy
        have hm : m = 0 := by
          have h0 : m * sz = 0 := by rw [← hl]; rfl
          rcases Nat.mul_eq_zero.1 h0 with h | h
          · exact h
          · omega
        subst hm
        cases A with
        | some ad => exact some_ ad (by simp)
        | none => exact ⟨v, w, run_append_void w base _ o.type _ i0 sz ht hi0 v _ _ hown c, by simpa using hown, World.grownBy.refl w _, .inl rfl⟩
      · exact some_ ⟨g, of, none⟩ (fun j u hj => by rw [addr_lit]; exact hc j u hj)
    obtain ⟨v', w', hr, h2, h3, h4⟩ := key
    unfold Oper.wp execOp
    simp only [ho, resolve, invoke, builtin, Sem.run_bind, Sem.run_pure, Result.andThen_ok, List.map_toArray, List.map_cons, List.map_nil, hs, hx, hr]
    obtain ⟨A', c', rfl, hc1, hc2⟩ := ownsRow_form h2
    exact hK _ _ (h A' c' w' hc1 hc2 h2 ((Below.refl _ _).grown h3 hb fun k hk => (hown.lt k hk).1) h3 h4)
end
theorem exec_one' {P : Program} (w : World) (ρ : Operand → Value) (dst : Option Tmp) (ty : TypeId) (pos : String) (after : Array Edge) (guard : Option (Nat × Bool)) (t e n by_ : Nat) (z : Value) (x : Operand)
    (ht : P.underlying t = some (.slice e)) (hi : (P.info? e).map (fun i => (i.zero, i.size, i.bytes)) = some (some z, n, by_)) (hz : z.cells.size = n) (hn : n ≤ 16777216) (hp : n ≠ 0) :
    (execOp ρ { dst, op := .buildSlice t 1 #[(0, x)], type := ty, pos, after, guard }).run P w = oneOp n e w (rawOp P ρ { dst, op := .buildSlice t 1 #[(0, x)], type := ty, pos, after, guard } w) (ρ x) := by
  generalize hv : ρ x = v
  unfold oneOp
  split
  · rename_i cs
    split
    · rename_i hcs
      cases hq : P.info? e with
      | none => simp [hq] at hi
      | some i =>
        simp only [hq, Option.map_some, Option.some.injEq, Prod.mk.injEq] at hi
        obtain ⟨h1, h2, _⟩ := hi
        have hf : Instr.fill (fun i => some (i * n, n)) ((Array.range (1 * n)).map (fun j => z.cells[j % z.cells.size]!)) [(0, Value.agg cs)] = some cs := by
          have hsz : ((Array.range (1 * n)).map (fun j => z.cells[j % z.cells.size]!)).size = n := by simp
          generalize (Array.range (1 * n)).map (fun j => z.cells[j % z.cells.size]!) = m at *
          have h3 := fill_fits (fun i => some (i * n, n)) [(0, Value.agg cs)] [(0, cs.toList)] m.toList ⟨by simp [hcs], rfl, by simp [hcs, hsz], trivial⟩
          rw [Array.toArray_toList] at h3
          rw [h3]
          simp [putAll, putCells, hcs, hsz, List.drop_eq_nil_of_le]
        have hl' : ¬ (16777216 < n) := by omega
        have hr : (Instr.buildSlice t 1 #[(0, Value.agg cs)]).run P w = .ok (.slice (some ⟨w.heap.size, 0, none⟩) 1 1) (w.alloc (.cells cs e)) := by
          unfold Instr.buildSlice
          simp only [Sem.run_bind, run_underlying ht, Result.andThen_ok, sizeOf, typeInfo, Sem.run_pure]
          simp only [Nat.one_mul] at hf
          simp [hq, h2, hl', hp, zeroValue, typeInfo, h1, newRow]
          rw [hf]
          rfl
        simp only [execOp, List.map_toArray, List.map_cons, List.map_nil, hv, Sem.run_bind, hr, Result.andThen_ok, Sem.run_pure]
    · rfl
  · rfl
/-- The slice value v reads as these hashes, in a block from lo to B. -/
def Hs (w : World) (lo B : Nat) (v : Value) (l : List (List UInt8)) : Prop := (∀ k ∈ l, k.length = 32) ∧ ∃ A c, v = .slice A l.length c ∧ l.length ≤ c ∧ c ≤ maxLen ∧ Rd w lo B A (c8 l.flatten)
section
variable {w w' : World} {lo lo' B B' : Nat} {v : Value} {l : List (List UInt8)}
theorem Hs.below (h : Hs w lo B v l) (hb : Below B w w') : Hs w' lo B v l := let ⟨h0, A, c, h1, h2, h3, h4⟩ := h; ⟨h0, A, c, h1, h2, h3, h4.below hb⟩
theorem Hs.more (h : Hs w lo B v l) (hB : B ≤ B') : Hs w lo B' v l := let ⟨h0, A, c, h1, h2, h3, h4⟩ := h; ⟨h0, A, c, h1, h2, h3, h4.more hB⟩
theorem Hs.form (h : Hs w lo B v l) : ∃ A c, v = .slice A l.length c ∧ l.length ≤ c ∧ c ≤ 9223372036854775807 := by
  obtain ⟨_, A, c, h1, h2, h3, _⟩ := h; exact ⟨A, c, h1, h2, by unfold maxLen at h3; exact h3⟩
theorem length_hflat {l : List (List UInt8)} (h : ∀ k ∈ l, k.length = 32) : l.flatten.length = l.length * 32 := by
  induction l with
  | nil => rfl
  | cons k l ih =>
    have h1 := ih fun q hq => h q (by simp [hq])
    have h2 := h k (by simp)
    simp only [List.flatten_cons, List.length_append, List.length_cons] at h1 ⊢
    omega
theorem hflat_at {l : List (List UInt8)} (h : ∀ k ∈ l, k.length = 32) : ∀ {i : Nat} {k : List UInt8}, l[i]? = some k → (l.flatten.drop (i * 32)).take 32 = k := by
  induction l with
  | nil => intro i p hp; simp at hp
  | cons q l ih =>
    intro i p hp
    have h2 := h q (by simp)
    cases i with
    | zero =>
      simp at hp; subst hp
      simp only [List.flatten_cons, Nat.zero_mul, List.drop_zero]
      rw [← h2, List.take_left]
    | succ i =>
      have := ih (fun q hq => h q (by simp [hq])) (i := i) (k := p) (by simpa using hp)
      simp only [List.flatten_cons]
      rw [show (i + 1) * 32 = q.length + i * 32 by omega, ← List.drop_drop, List.drop_left]
      exact this
theorem Hs.row (h : Hs w lo B v l) : ∃ g o c, (∀ i k, l[i]? = some k → rowAt w ⟨g, o + i * 32, none⟩ 32 = some (c8 k)) ∧ lo ≤ g ∧ g < B ∧ v = .slice (some ⟨g, o, none⟩) l.length c ∧ l.length ≤ c ∧ c ≤ 9223372036854775807 ∨ l = [] := by
  obtain ⟨h0, A, c, h1, h2, h3, h4⟩ := h
  rcases Nat.eq_zero_or_pos l.length with h5 | h5
  · exact ⟨0, 0, 0, .inr (List.eq_nil_of_length_eq_zero h5)⟩
  · obtain ⟨g, o, rfl, hl, hb, hc⟩ := h4.some (by rw [length_c8, length_hflat h0]; omega)
    refine ⟨g, o, c, .inl ⟨fun i k hk => ?_, hl, hb, h1, h2, by unfold maxLen at h3; exact h3⟩⟩
    have hat := hflat_at h0 hk
    have hkl := h0 k (List.mem_of_getElem? hk)
    refine rowAt_iff.2 ⟨by rw [length_c8, hkl], fun j u hj => ?_⟩
    have hj6 : j < 32 := by have := (List.getElem?_eq_some_iff.1 hj).1; rw [length_c8, hkl] at this; exact this
    rw [Nat.add_assoc]
    refine hc _ _ ?_
    rw [← hj, ← hat]
    simp only [c8, List.getElem?_map, List.getElem?_take, List.getElem?_drop, if_pos hj6]
end
@[go_sem] theorem oneOp_agg (n : Nat) (t : TypeId) (w : World) (raw : Result Next) (cs : Array Value) : oneOp n t w raw (.agg cs) = if cs.size = n then .ok (.value (.slice (some ⟨w.heap.size, 0, none⟩) 1 1)) (w.alloc (.cells cs t)) else raw := rfl
theorem infoT : (Try.prog.info? 50).map (fun i => (i.zero, i.size, i.bytes)) = some (some (.agg #[.pointer none, .int .i64 0]), 2, 16) := by kernel_rfl
theorem infoH : (Try.prog.info? 24).map (fun i => (i.zero, i.size, i.bytes)) = some (some (A8 (z8 32)), 32, 32) := by kernel_rfl
set_option maxRecDepth 100000 in
theorem one_of {e t n b : Nat} {z : Value} (ht : Try.prog.underlying t = some (.slice e)) (hi : (Try.prog.info? e).map (fun i => (i.zero, i.size, i.bytes)) = some (some z, n, b)) (hz : z.cells.size = n) (hn : n ≤ 16777216) (hp : n ≠ 0)
    (w : World) (ρ : Operand → Value) (dst : Option Tmp) (ty : TypeId) (pos : String) (after : Array Edge) (guard : Option (Nat × Bool)) (x : Operand) :
    (execOp ρ { dst, op := .buildSlice t 1 #[(0, x)], type := ty, pos, after, guard }).run Try.prog w = oneOp n e w (rawOp Try.prog ρ { dst, op := .buildSlice t 1 #[(0, x)], type := ty, pos, after, guard } w) (ρ x) := exec_one' w ρ dst ty pos after guard t e n b z x ht hi hz hn hp
@[go_sem ↓ high] theorem one_h32 (w : World) (ρ : Operand → Value) (dst : Option Tmp) (ty : TypeId) (pos : String) (after : Array Edge) (guard : Option (Nat × Bool)) (x : Operand) :
    (execOp ρ { dst, op := .buildSlice 23 1 #[(0, x)], type := ty, pos, after, guard }).run Try.prog w = oneOp 32 24 w (rawOp Try.prog ρ { dst, op := .buildSlice 23 1 #[(0, x)], type := ty, pos, after, guard } w) (ρ x) :=
  one_of Try.underlying23 infoH (by simp [A8, Value.cells]) (by decide) (by decide) w ρ dst ty pos after guard x
end Go.Proofs.Ytlegpkdighoflaa
