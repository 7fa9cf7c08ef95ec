/- Slices made by Digest: an empty one, noughts, an append of words; values of a round kept in 64 bits. -/
import Derived.Test.YtpalomkcgfalnaaRefB
import Derived.Test.YtpalomkcgfalnaaRefQ
import Derived.Test.YtpalomkcgfalnaaMore
import Derived.Test.YtpalomkcgfalnaaConcat
import Derived.Test.YtpalomkcgfalnaaExt
import Derived.Deep.OwnRows
set_option linter.unusedVariables false
set_option linter.unusedSimpArgs false
namespace Go.Proofs.Ytpalomkcgfalnaa
open Go Go.RowKit Sh
theorem Own8.empty (w : World) (base : Nat) (hb : base ≤ w.heap.size) : Own8 (w.alloc (.cells #[] 5)) base (.slice (some ⟨w.heap.size, 0, none⟩) 0 0) [] :=
  ⟨rfl, .inr ⟨w.heap.size, 0, #[], rfl, hb, heap_alloc_new w _, Nat.le_refl _, by simp [maxLen], rfl, rfl⟩⟩
theorem By.alloc {w : World} {lo B : Nat} {v : Value} {l : List UInt8} (h : By w lo B v l) (hB : B ≤ w.heap.size) (o : Obj) : By (w.alloc o) lo B v l := h.below (((Below.refl _ _).alloc (Nat.le_refl _) _).mono hB)
theorem Bk.by8 {w : World} {g : Nat} {l : List UInt8} (h : Bk w g 5 (c8 l)) (n : Nat) (hn : n = l.length) (hl : l.length ≤ 1000000) : By w 0 w.heap.size (.slice (some ⟨g, 0, none⟩) n n) l := by
  subst hn
  refine By.mk_ (Nat.le_refl _) (by simp only [maxLen]; omega) (.inr ⟨g, 0, rfl, Nat.zero_le _, h.lt, fun j u hj => ?_⟩)
  rw [Nat.zero_add]; exact h.at_ hj
theorem grown_set {W w : World} {g : Nat} (h : W.grownBy w (some g)) (i : Nat) (u : Value) : W.grownBy (w.setCell ⟨g, i, none⟩ u) (some g) :=
  ⟨h.os, h.tape, h.output, by simpa using h.size, fun k hk hne => (Below.heap_setCell w _ u k (by intro e; exact hne (by rw [e]))).trans (h.block k hk hne)⟩
theorem fl_full (L : Nat) (N : UInt64) : fl L N L = z8 L := by simp [fl, lb, z8]
theorem infoUint : (Try.prog.info? 24).map (fun i => (i.size, i.zero)) = some (1, some (.int .u64 0)) := by kernel_rfl
theorem infoU64b : (Try.prog.info? 96).map (fun i => (i.zero, i.size, i.bytes)) = some (some (.int .u64 0), 1, 8) := by kernel_rfl
theorem made8 (n : Nat) : madeCells #[.int .u8 0] n = (c8 (z8 n)).toArray := by
  apply Array.ext'
  simp only [madeCells, c8, z8]
  apply List.ext_getElem
  · simp
  · intro i h1 h2
    simp at h1
    have e : v8 0 = .int .u8 0 := rfl
    simp [Nat.mod_one, e]
theorem made64 (n : Nat) : madeCells #[.int .u64 0] n = (c64 (z64 n)).toArray := by
  apply Array.ext'
  simp only [madeCells, c64, z64]
  apply List.ext_getElem
  · simp
  · intro i h1 h2
    simp at h1
    have e : v64 0 = .int .u64 0 := rfl
    simp [Nat.mod_one, e]
section
variable {ops : Array Oper} {rest : List Oper} {o : Oper} {a : Act} {w : World} {Q : Exit → Act → World → Prop}
theorem wpList_make8 (hg : o.guard = none) (l c : Operand) (hop : o.op = .makeSlice 22 l c) (n : Nat) (kl kc : IntKind) (hl : a.eval l = .int kl (n : Int)) (hc : a.eval c = .int kc (n : Int)) (hn : n ≤ 1000000)
    (hK : wpList Try.prog ops Q rest (a.put o.dst (.slice (some ⟨w.heap.size, 0, none⟩) n n)) (w.alloc (.cells (c8 (z8 n)).toArray 5))) : wpList Try.prog ops Q (o :: rest) a w := by
  obtain ⟨i, hi, hz⟩ := Option.map_eq_some_iff.1 info8
  simp only [Prod.mk.injEq] at hz
  refine wpList_make_row w hg l c _ hop _ i _ Try.underlying22 hi hz.1 hz.2.1 rfl kl kc n hl hc (by rw [hz.2.2]; omega) (by omega) ?_
  rw [made8]; exact hK
theorem wpList_make64 (hg : o.guard = none) (l c : Operand) (hop : o.op = .makeSlice 106 l c) (n : Nat) (kl kc : IntKind) (hl : a.eval l = .int kl (n : Int)) (hc : a.eval c = .int kc (n : Int)) (hn : n ≤ 1000000)
    (hK : wpList Try.prog ops Q rest (a.put o.dst (.slice (some ⟨w.heap.size, 0, none⟩) n n)) (w.alloc (.cells (c64 (z64 n)).toArray 96))) : wpList Try.prog ops Q (o :: rest) a w := by
  obtain ⟨i, hi, hz⟩ := Option.map_eq_some_iff.1 infoU64b
  simp only [Prod.mk.injEq] at hz
  refine wpList_make_row w hg l c _ hop _ i _ Try.underlying106 hi hz.1 hz.2.1 rfl kl kc n hl hc (by rw [hz.2.2]; omega) (by omega) ?_
  rw [made64]; exact hK
/-- append([]uint64{}, x...) -/
theorem app64 (hgd : o.guard = none) (s x : Operand) (ho : o.op = .call { callee := .builtin .append, args := #[s, x], argTypes := #[106, 106] })
    (hs : a.eval s = .slice (some ⟨w.heap.size, 0, none⟩) 0 0) (g n c : Nat) (m : List UInt64) (hx : a.eval x = .slice (some ⟨g, 0, none⟩) n c) (hn : n = m.length) (hm : Bk w g 96 (c64 m)) (hsz : m.length ≤ 1000000)
    (h : ∀ v w', Sl w' w.heap.size w'.heap.size v (c64 m) → Below w.heap.size w w' → w.heap.size < w'.heap.size → wpList Try.prog ops Q rest (a.put o.dst v) w') : wpList Try.prog ops Q (o :: rest) a (w.alloc (.cells #[] 96)) :=
  wpList_plain hgd fun _ hK => by
    obtain ⟨i0, hi0, hz0, hz1, hz2⟩ := info_parts infoU64b
    have hown : (w.alloc (.cells #[] 96)).ownsRow w.heap.size 96 1 (.slice (some ⟨w.heap.size, 0, none⟩) 0 0) 0 [] :=
      ⟨rfl, .inr ⟨w.heap.size, 0, #[], rfl, Nat.le_refl _, heap_alloc_new w _, Nat.le_refl _, by simp [maxLen], rfl, rfl⟩⟩
    have hone : ∀ u ∈ c64 m, u.oneCell' = true := by intro u hu; obtain ⟨x, _, rfl⟩ := List.mem_map.1 hu; rfl
    have hm' := hm.alloc (.cells #[] 96)
    obtain ⟨v', w', hr, h6, h7, _, _⟩ := run_append_own_at (P := Try.prog) (w.alloc (.cells #[] 96)) w.heap.size 106 o.type 96 i0 (.int .u64 0) 1 8 Try.underlying106 hi0 hz0 hz1 hz2 rfl (by decide) _ 0 [] hown ⟨g, 0, none⟩ n c (c64 m) (by simp [hn])
      (fun j u hj => by rw [addr_lit, Nat.zero_add]; exact hm'.at_ hj) hone (by simp only [maxLen]; omega) (by omega) (by simp)
    unfold Oper.wp execOp
    simp only [ho, resolve, invoke, builtin, Sem.run_bind, Sem.run_pure, Result.andThen_ok, List.map_toArray, List.map_cons, List.map_nil, hs, hx, hr]
    have hsz' := h7.size
    simp at hsz'
    refine hK _ _ (h v' w' ?_ (((Below.refl _ _).alloc (Nat.le_refl _) _).grown h7 (by simp) fun k hk => ?_) (by omega))
    · have := Sl.of_own h6; simpa using this
    · simp [Value.ownBlock] at hk; omega
end
end Go.Proofs.Ytpalomkcgfalnaa
