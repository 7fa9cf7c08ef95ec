/- How the row's readings of the arguments become the words of the walks. -/
import Derived.Test.YtpalomkcgfalnaaConcat
import Derived.ProofKit
import Derived.OpenShut
import Derived.ShutString
import Derived.Deep.Slices
set_option linter.unusedVariables false
set_option linter.unusedSimpArgs false
namespace Go.Proofs.Ytpalomkcgfalnaa
open Go Go.RowKit Go.ChangeShapes Go.WideShapes Go.ChangeAt
section
variable {H : Type} {enc : TypeId × Value → H} {P : Program} {w : World} {base : Nat} {spare : Nat → Bool} {held : Bool}
theorem byteOf {n : Int} (h : (Lit.int .u8 n).wf = true) : n = n8 (UInt8.ofNat n.toNat) := by
  have hb := bounds_u8 h
  unfold n8
  rw [UInt8.toNat_ofNat']
  omega
/-- What a list's reading says of its length. -/
def Long (d : DataW H) (n : Nat) : Prop := n = 0 ∨ ∃ es sp, d = .slice es sp ∧ es.length = n
/-- An argument of type []byte. -/
theorem open_bytes {t e : TypeId} (ht : P.underlying t = some (.slice e)) (he : P.underlying e = some (.int .u8)) (hc : P.cellsOf e = 1) {fuel : Nat} {cs : List Value} {x : DataW H × List MemPlace}
    (h : DataW.trod enc P w base spare held fuel t cs = some x) : ∃ v l, cs = [v] ∧ By w 0 w.heap.size v l ∧ Long x.1 l.length := by
  rcases open_ints ht he hc h with ⟨hcs, _⟩ | ⟨a, len, cap, zs, hcs, _, hl, hm, hz, hx, hcell, hwz⟩
  · exact ⟨_, [], hcs, By.nil w 0 _, .inl rfl⟩
  · have hzl : len ≤ zs.length := by rw [hz]; split <;> omega
    have hlen : ((zs.take len).map (fun n => UInt8.ofNat n.toNat)).length = len := by simp; omega
    refine ⟨_, (zs.take len).map (fun n => UInt8.ofNat n.toNat), hcs, ?_, .inr ⟨_, _, by rw [hx], by rw [hlen]; simp [lits]; omega⟩⟩
    rcases Nat.eq_zero_or_pos len with h0 | h0
    · subst h0
      exact By.mk_ (l := []) (by simp) hm (.inl rfl)
    · have hc0 := hcell 0 (by omega)
      have hs : a.spot = none := World.cell?_spot (by simpa [Addr.add] using hc0)
      have hblk : a.block < w.heap.size := block_lt_of_cell (by simpa [Addr.add] using hc0)
      obtain ⟨g, o, s⟩ := a
      simp only at hs hblk
      subst hs
      have h1 := By.mk_ (w := w) (lo := 0) (B := w.heap.size) (A := some ⟨g, o, none⟩) (c := cap) (l := (zs.take len).map (fun n => UInt8.ofNat n.toNat)) (by omega) hm (.inr ⟨g, o, rfl, Nat.zero_le _, hblk, fun j u hj => ?_⟩)
      · rw [hlen] at h1
        exact h1
      · rw [List.map_map] at hj
        have hjl : j < len := by
          have := (List.getElem?_eq_some_iff.1 hj).1
          simp at this; omega
        rw [List.getElem?_map, List.getElem?_take, if_pos hjl, List.getElem?_eq_getElem (by omega)] at hj
        simp only [Option.map_some, Option.some.injEq, Function.comp] at hj
        have hcj := hcell j (by omega)
        rw [addr_lit] at hcj
        rw [hcj, ← hj]
        have hw8 := byteOf (hwz (zs[j]'(by omega)) (List.getElem_mem _))
        simp only [List.getD_eq_getElem?_getD, List.getElem?_eq_getElem (show j < zs.length by omega), Option.getD_some]
        rw [v8, ← hw8]
/-- An argument of type [][]byte. -/
theorem open_parts {t u e : TypeId} (ht : P.underlying t = some (.slice u)) (hu : P.underlying u = some (.slice e)) (he : P.underlying e = some (.int .u8)) (hcu : P.cellsOf u = 1) (hc : P.cellsOf e = 1) {fuel : Nat} {cs : List Value} {x : DataW H × List MemPlace}
    (h : DataW.trod enc P w base spare held fuel t cs = some x) : ∃ v ls, cs = [v] ∧ Parts w w.heap.size v ls ∧
      (ls = [] ∨ ∃ es sp, x.1 = .slice es sp ∧ es.length = ls.length ∧ ∀ (i : Nat) (d : DataW H) (l : List UInt8), es[i]? = some d → ls[i]? = some l → Long d l.length) := by
  rcases Go.Deep.open_slice ht h with ⟨hcs, _⟩ | ⟨a, len, cap, m, n, D, Pl, hcs, _, hl, hm, hmm, hx, hi⟩
  · exact ⟨_, [], hcs, ⟨[], ⟨none, 0, rfl, Nat.le_refl _, by simp [maxLen], .inl rfl⟩, rfl, fun i x l hx => by simp at hx⟩, .inl rfl⟩
  · have hml : len ≤ m := by rw [hmm]; split <;> omega
    have each : ∀ i, ∃ p : Value × List UInt8, i < len → w.cell? (a.add i) = some p.1 ∧ By w 0 w.heap.size p.1 p.2 ∧ Long (D i) p.2.length := by
      intro i
      by_cases hil : i < len
      · obtain ⟨cs', hcl, htr⟩ := hi i (by omega)
        rw [hcu, Nat.mul_one] at hcl
        obtain ⟨_, hlen, hat⟩ := World.cells?_some hcl
        obtain ⟨v, l, hv, hb, hlg⟩ := open_bytes hu he hc htr
        refine ⟨(v, l), fun _ => ⟨?_, hb, hlg⟩⟩
        have := hat 0 (by omega)
        rw [addr_add, Nat.add_zero] at this
        rw [this, hv]; rfl
      · exact ⟨(.nilIface, []), fun h => absurd h hil⟩
    obtain ⟨f, hf⟩ := Classical.skolem.1 each
    refine ⟨_, (List.range len).map fun i => (f i).2, hcs, ⟨(List.range len).map fun i => (f i).1, ⟨some a, cap, by simp, by simpa using hl, hm, ?_⟩, by simp, fun i y l hy hl' => ?_⟩, .inr ⟨(List.range len).map D, _, by rw [hx], by simp, fun i d l hd hl' => ?_⟩⟩
    · rcases Nat.eq_zero_or_pos len with h0 | h0
      · subst h0; exact .inl rfl
      · have hc0 := (hf 0 h0).1
        have hs : a.spot = none := World.cell?_spot (by simpa [Addr.add] using hc0)
        have hblk : a.block < w.heap.size := block_lt_of_cell (by simpa [Addr.add] using hc0)
        obtain ⟨g, o, s⟩ := a
        simp only at hs hblk
        subst hs
        refine .inr ⟨g, o, rfl, Nat.zero_le _, hblk, fun j u hj => ?_⟩
        have hjl : j < len := by
          have := (List.getElem?_eq_some_iff.1 hj).1
          simpa using this
        have := (hf j hjl).1
        rw [addr_lit] at this
        rw [this]
        simpa [hjl] using hj
    · have hil : i < len := by
        have := (List.getElem?_eq_some_iff.1 hy).1
        simpa using this
      simp [hil] at hy hl'
      subst hy; subst hl'
      exact (hf i hil).2.1
    · have hil : i < len := by
        have := (List.getElem?_eq_some_iff.1 hd).1
        simpa using this
      simp [hil] at hd hl'
      subst hd; subst hl'
      exact (hf i hil).2.2
end
end Go.Proofs.Ytpalomkcgfalnaa
