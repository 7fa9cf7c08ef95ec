/- How a row's reading of an argument of type [][32]byte becomes the word of the walks. -/
import Derived.Test.YtlegpkdighoflaaMO
import Derived.Test.YtlegpkdighoflaaOwnR
set_option linter.unusedVariables false
set_option linter.unusedSimpArgs false
namespace Go.Proofs.Ytlegpkdighoflaa
open Go Go.RowKit Go.ChangeShapes Go.WideShapes Go.ChangeAt Sh
section
variable {H : Type} {enc : TypeId × Value → H} {P : Program} {w : World} {base : Nat} {spare : Nat → Bool} {held : Bool}
theorem open_hashes {u t e : TypeId} (hu : P.underlying u = some (.slice t)) (ht : P.underlying t = some (.array 32 e)) (he : P.underlying e = some (.int .u8)) (hc : P.cellsOf e = 1) (hct : P.cellsOf t = 32) {fuel : Nat} {cs : List Value} {x : DataW H × List MemPlace}
    (hx : DataW.trod enc P w base spare held fuel u cs = some x) : ∃ v l, cs = [v] ∧ Hs w 0 w.heap.size v l := by
  rcases Go.Deep.open_slice hu hx with ⟨hcs, _⟩ | ⟨a, len, cap, m, n, D, Pl, hcs, _, hl, hm, hmm, _, hi⟩
  · exact ⟨_, [], hcs, by simp, none, 0, rfl, Nat.le_refl _, by simp [maxLen], .inl rfl⟩
  · have hml : len ≤ m := by rw [hmm]; split <;> omega
    have each : ∀ i, ∃ p : List UInt8, i < len → p.length = 32 ∧ ∀ j u, (c8 p)[j]? = some u → w.cell? (a.add (i * 32 + j)) = some u := by
      intro i
      by_cases hil : i < len
      · obtain ⟨cs', hcl, htr⟩ := hi i (by omega)
        rw [hct] at hcl
        obtain ⟨_, hlen, hat⟩ := World.cells?_some hcl
        obtain ⟨p, hp, hok⟩ := trod_h32 ht he hc hct htr
        refine ⟨p, fun _ => ⟨hok, fun j u hj => ?_⟩⟩
        have hjl : j < 32 := by have := (List.getElem?_eq_some_iff.1 hj).1; rw [length_c8, hok] at this; exact this
        have := hat j hjl
        rw [addr_add] at this
        rw [this, hp, hj]
      · exact ⟨[], fun h => absurd h hil⟩
    obtain ⟨f, hf⟩ := Classical.skolem.1 each
    have hok : ∀ p ∈ (List.range len).map f, p.length = 32 := by
      intro p hp
      obtain ⟨i, hi', rfl⟩ := List.mem_map.1 hp
      exact (hf i (List.mem_range.1 hi')).1
    have hln : ((List.range len).map f).length = len := by simp
    refine ⟨_, (List.range len).map f, hcs, hok, some a, cap, by rw [hln], by omega, hm, ?_⟩
    rcases Nat.eq_zero_or_pos len with hz | hz
    · subst hz; exact .inl rfl
    · have hc0 := (hf 0 hz).2 0 _ (c8_at (by rw [(hf 0 hz).1]; omega))
      have hs : a.spot = none := World.cell?_spot (by simpa [Addr.add] using hc0)
      have hblk : a.block < w.heap.size := block_lt_of_cell (by simpa [Addr.add] using hc0)
      obtain ⟨g, o, s⟩ := a
      simp only at hs hblk
      subst hs
      refine .inr ⟨g, o, rfl, Nat.zero_le _, hblk, fun j u hj => ?_⟩
      have hjl := (List.getElem?_eq_some_iff.1 hj).1
      rw [length_c8, length_hflat hok, hln] at hjl
      have hjd : j / 32 < len := by omega
      have hat := hflat_at hok (i := j / 32) (k := f (j / 32)) (by simp [hjd])
      have hcell : (c8 (f (j / 32)))[j % 32]? = some u := by
        rw [← hat]
        simp only [c8, List.getElem?_map, List.getElem?_take, List.getElem?_drop, if_pos (show j % 32 < 32 by omega)]
        rw [show j / 32 * 32 + j % 32 = j by omega, ← List.getElem?_map]
        exact hj
      have := (hf (j / 32) hjd).2 (j % 32) u hcell
      rw [addr_lit, show j / 32 * 32 + j % 32 = j by omega] at this
      exact this
end
set_option maxRecDepth 100000 in
theorem hashes_open {H : Type} {enc : TypeId × Value → H} {w : World} {base : Nat} {spare : Nat → Bool} {held : Bool} {r : Reach} {b0 : Nat} {v : Value} {d : DataW H} {ps : List MemPlace} (hval : Value.okWide Try.prog w r b0 23 v)
    (h : DataW.Trod enc Try.prog w base spare held 23 v d ps) : ∃ l, Hs w 0 w.heap.size v l := by
  obtain ⟨fuel, hf⟩ := h
  obtain ⟨v', l, hv, hp⟩ := open_hashes Try.underlying23 Try.underlying24 Try.underlying5 (by kernel_rfl) (by kernel_rfl) hf
  have hv0 : v = v' := by
    obtain ⟨a0, len0, cap0, e0⟩ := okWide_slice Try.underlying23 hval
    rw [e0] at hv ⊢
    have h1 : [Value.slice a0 len0 cap0] = [v'] := hv
    exact (List.cons.inj h1).1
  exact ⟨l, hv0 ▸ hp⟩
end Go.Proofs.Ytlegpkdighoflaa
