/- A []byte that the call owns: appends to it as single steps. -/
import Derived.Test.YtpalomkcgfalnaaApp
import Derived.Test.YtpalomkcgfalnaaArr
set_option linter.unusedVariables false
set_option linter.unusedSimpArgs false
namespace Go.Proofs.Ytpalomkcgfalnaa
open Go Go.RowKit

/-- The slice value v is the call's own (in a block from base on, or nil) and reads as these bytes. -/
def Own8 (w : World) (base : Nat) (v : Value) (l : List UInt8) : Prop := w.ownsRow base 5 1 v l.length (l.map v8)
theorem Own8.by_ {w : World} {base : Nat} {v : Value} {l : List UInt8} (h : Own8 w base v l) : By w base w.heap.size v l := Sl.of_own h
theorem Own8.nil (w : World) (base : Nat) : Own8 w base (.slice none 0 0) [] := World.ownsRow_nil w base _ _
theorem Own8.below {w w' : World} {base B : Nat} {v : Value} {l : List UInt8} (h : Own8 w base v l) (hb : Below B w w') (hB : w.heap.size ≤ B) : Own8 w' base v l := by
  refine World.ownsRow.kept (row := none) h ⟨hb.os, hb.tape, hb.output, hb.size, fun k hk _ => hb.block k (by omega)⟩ ?_
  cases hv : v.ownBlock <;> simp
theorem Own8.kept {w w' : World} {base : Nat} {v : Value} {l : List UInt8} {row : Option Nat} (h : Own8 w base v l) (hg : w.grownBy w' row) (hne : v.ownBlock = none ∨ v.ownBlock ≠ row) : Own8 w' base v l := World.ownsRow.kept h hg hne
theorem Own8.less {w : World} {base base' : Nat} {v : Value} {l : List UInt8} (h : Own8 w base v l) (hb : base' ≤ base) : Own8 w base' v l := by
  refine ⟨h.1, ?_⟩
  rcases h.2 with h2 | ⟨g, cap, cur, hv, hg, r⟩
  · exact .inl h2
  · exact .inr ⟨g, cap, cur, hv, by omega, r⟩
theorem Own8.alloc {w : World} {base : Nat} {v : Value} {l : List UInt8} (h : Own8 w base v l) (o : Obj) : Own8 (w.alloc o) base v l := World.ownsRow.alloc h o
theorem Own8.drewN {w : World} {base : Nat} {v : Value} {l : List UInt8} (h : Own8 w base v l) (n : Nat) : Own8 (w.drewN n) base v l := h
theorem Own8.form {w : World} {base : Nat} {v : Value} {l : List UInt8} (h : Own8 w base v l) : ∃ A c, v = .slice A l.length c ∧ l.length ≤ c ∧ c ≤ 9223372036854775807 := by
  obtain ⟨A, c, h1, h2, h3, _⟩ := h.by_.open_
  exact ⟨A, c, h1, h2, h3⟩

theorem Own8.take {w : World} {base : Nat} {A : Option Addr} {n c : Nat} {l : List UInt8} (h : Own8 w base (.slice A n c) l) {k : Nat} (hk : k ≤ l.length) : Own8 w base (.slice A k c) (l.take k) := by
  have hkl : (l.take k).length = k := by simp; omega
  refine ⟨by simp, ?_⟩
  rw [hkl]
  rcases h.2 with ⟨hv, hn⟩ | ⟨g, cap, cur, hv, hg, hh, hc, hm, hs, ht⟩
  · injection hv with e1 e2 e3
    have : k = 0 := by omega
    subst this; subst e1; subst e3
    exact .inl ⟨rfl, rfl⟩
  · injection hv with e1 e2 e3
    subst e1; subst e3
    refine .inr ⟨g, c, cur, rfl, hg, hh, by omega, hm, hs, ?_⟩
    rw [List.map_take, ← ht, List.take_take]
    congr 1
    omega

theorem info8 : (Try.prog.info? 5).map (fun i => (i.zero, i.size, i.bytes)) = some (some (.int .u8 0), 1, 1) := by kernel_rfl

section
variable (w : World) (base : Nat) (v : Value) (l : List UInt8)
theorem below_of_grown {w w' : World} {base : Nat} {v : Value} {l : List UInt8} (hown : Own8 w base v l) (hg : w.grownBy w' v.ownBlock) (hb : base ≤ w.heap.size) : Below base w w' :=
  (Below.refl _ _).grown hg hb fun k hk => (hown.lt k hk).1
theorem run_app8 (hown : Own8 w base v l) (x : Value) (m : List UInt8) (lo B : Nat) (hx : By w lo B x m) (hsz : l.length + m.length ≤ 70368744177664) (hb : base ≤ w.heap.size) (ty : TypeId) :
    ∃ v' w', (Builtin.append_ #[22, 22] ty #[v, x]).run Try.prog w = .ok v' w' ∧ Own8 w' base v' (l ++ m) ∧ w.grownBy w' v.ownBlock ∧ (v'.ownBlock = v.ownBlock ∨ v'.ownBlock = some w.heap.size) := by
  obtain ⟨i0, hi0, hz0, hz1, hz2⟩ := info_parts info8
  obtain ⟨A, c, rfl, h2, h3, h4⟩ := hx.open_
  have hone : ∀ u ∈ m.map v8, u.oneCell' = true := by intro u hu; obtain ⟨x, _, rfl⟩ := List.mem_map.1 hu; rfl
  have key : ∀ a : Addr, (∀ j u, (m.map v8)[j]? = some u → w.cell? (a.add j) = some u) → ∃ v' w', (Builtin.append_ #[22, 22] ty #[v, .slice (some a) m.length c]).run Try.prog w = .ok v' w' ∧ Own8 w' base v' (l ++ m) ∧ w.grownBy w' v.ownBlock ∧ (v'.ownBlock = v.ownBlock ∨ v'.ownBlock = some w.heap.size) := by
    intro a hc
    obtain ⟨v', w', h5, h6, h7, _, h8⟩ := run_append_own_at (P := Try.prog) w base 22 ty 5 i0 (.int .u8 0) 1 1 Try.underlying22 hi0 hz0 hz1 hz2 rfl (by decide) v l.length (l.map v8) hown a m.length c (m.map v8) (by simp) hc hone
      (by simp only [maxLen]; omega) (by omega) hb
    refine ⟨v', w', h5, ?_, h7, h8⟩
    unfold Own8
    rw [List.length_append, List.map_append]
    exact h6
  rcases h4 with h4 | ⟨g, o, rfl, _, _, hc⟩
  · have hm : m = [] := by simpa using h4
    subst hm
    cases A with
    | some a => exact key a (by simp)
    | none =>
      exact ⟨v, w, run_append_void w base _ ty _ i0 1 Try.underlying22 hi0 v _ _ hown c, by simpa using hown, World.grownBy.refl w _, .inl rfl⟩
  · exact key ⟨g, o, none⟩ (fun j u hj => by rw [addr_lit]; exact hc j u hj)

variable {ops : Array Oper} {rest : List Oper} {o : Oper} {a : Act} {Q : Exit → Act → World → Prop}
/-- append(s, x...) -/
theorem app8 (hgd : o.guard = none) (s x : Operand) (ho : o.op = .call { callee := .builtin .append, args := #[s, x], argTypes := #[22, 22] })
    (hs : a.eval s = v) (hown : Own8 w base v l) (y : Value) (hx : a.eval x = y) (m : List UInt8) (lo B : Nat) (hy : By w lo B y m) (hsz : l.length + m.length ≤ 70368744177664) (hb : base ≤ w.heap.size)
    (h : ∀ A c w', (l ++ m).length ≤ c → c ≤ 9223372036854775807 → Own8 w' base (.slice A (l ++ m).length c) (l ++ m) → Below base w w' → w.grownBy w' v.ownBlock → ((Value.slice A (l ++ m).length c).ownBlock = v.ownBlock ∨ (Value.slice A (l ++ m).length c).ownBlock = some w.heap.size) → wpList Try.prog ops Q rest (a.put o.dst (.slice A (l ++ m).length c)) w') : wpList Try.prog ops Q (o :: rest) a w :=
  wpList_plain hgd fun _ hK => by
    obtain ⟨v', w', hr, h2, h3, h4⟩ := run_app8 w base v l hown y m lo B hy hsz hb o.type
    unfold Oper.wp execOp
    simp only [ho, resolve, invoke, builtin, Sem.run_bind, Sem.run_pure, Result.andThen_ok, List.map_toArray, List.map_cons, List.map_nil, hs, hx, hr]
    obtain ⟨A, c, rfl, hc1, hc2⟩ := h2.form
    exact hK _ _ (h A c w' hc1 hc2 h2 (below_of_grown hown h3 hb) h3 h4)
/-- append(s, b): the byte first lies in a block of its own. -/
theorem app8_one (hgd : o.guard = none) (s x : Operand) (ho : o.op = .call { callee := .builtin .append, args := #[s, x], argTypes := #[22, 22] })
    (hs : a.eval s = v) (hown : Own8 w base v l) (c : Int) (b : UInt8) (hc : c = n8 b) (hx : a.eval x = .slice (some ⟨w.heap.size, 0, none⟩) 1 1) (hsz : l.length ≤ 35184372088832) (hb : base ≤ w.heap.size)
    (h : ∀ A c w', (l ++ [b]).length ≤ c → c ≤ 9223372036854775807 → Own8 w' base (.slice A (l ++ [b]).length c) (l ++ [b]) → Below base w w' → wpList Try.prog ops Q rest (a.put o.dst (.slice A (l ++ [b]).length c)) w') : wpList Try.prog ops Q (o :: rest) a (w.alloc (.cells #[.int .u8 c] 5)) := by
  have hy : By (w.alloc (.cells #[.int .u8 c] 5)) 0 (w.heap.size + 1) (.slice (some ⟨w.heap.size, 0, none⟩) 1 1) [b] := by
    refine By.mk_ (l := [b]) (by simp) (by simp [maxLen]) (.inr ⟨_, _, rfl, Nat.zero_le _, by omega, fun j u hj => ?_⟩)
    have hB := Bk.new w 5 [Value.int .u8 c]
    match j, hj with
    | 0, hj => simp [v8, ← hc] at hj; subst hj; exact hB.at_ rfl
    | j + 1, hj => simp at hj
  refine app8 _ base v l hgd s x ho hs (hown.alloc _) _ hx [b] 0 _ hy (by simp; omega) (by simp; omega) fun A c w' hc1 hc2 h1 h2 h3 h4 => h A c w' hc1 hc2 h1 ?_
  exact ((Below.refl _ _).alloc hb _).trans h2
/-- append(s, make([]byte, n)...) -/
theorem app8_zeros (hgd : o.guard = none) (s x : Operand) (ho : o.op = .call { callee := .builtin .append, args := #[s, x], argTypes := #[22, 3] })
    (hs : a.eval s = v) (hown : Own8 w base v l) (n : Nat) (k : IntKind) (hx : a.eval x = .int k (n : Int)) (hsz : l.length + n ≤ 70368744177664) (hb : base ≤ w.heap.size)
    (h : ∀ A c w', (l ++ List.replicate n 0).length ≤ c → c ≤ 9223372036854775807 → Own8 w' base (.slice A (l ++ List.replicate n 0).length c) (l ++ List.replicate n 0) → Below base w w' → wpList Try.prog ops Q rest (a.put o.dst (.slice A (l ++ List.replicate n 0).length c)) w') : wpList Try.prog ops Q (o :: rest) a w :=
  wpList_plain hgd fun _ hK => by
    obtain ⟨i0, hi0, hz0, hz1, hz2⟩ := info_parts info8
    obtain ⟨v', w', hr, h2, h3, h4⟩ := run_append_zeros (P := Try.prog) w base 22 3 o.type 5 i0 (.int .u8 0) 1 Try.underlying22 .i64 Try.underlying3 hi0 hz0 hz1 hz2 rfl rfl v l.length (l.map v8) hown k n
      (by simp only [maxLen]; omega) (by omega) hb
    unfold Oper.wp execOp
    simp only [ho, resolve, invoke, builtin, Sem.run_bind, Sem.run_pure, Result.andThen_ok, List.map_toArray, List.map_cons, List.map_nil, hs, hx, hr]
    have h5 : Own8 w' base v' (l ++ List.replicate n 0) := by
      unfold Own8
      rw [List.length_append, List.map_append, List.length_replicate, List.map_replicate]
      exact h2
    obtain ⟨A, c, rfl, hc1, hc2⟩ := h5.form
    exact hK _ _ (h A c w' hc1 hc2 h5 (below_of_grown hown h3 hb))
end
end Go.Proofs.Ytpalomkcgfalnaa
