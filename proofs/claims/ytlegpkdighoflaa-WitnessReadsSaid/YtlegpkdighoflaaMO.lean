/- How the row's readings of the arguments become the words of the walks. · How a row's reading of an argument of type [32]byte becomes the word of the walks. · How a row's reading of an argument of type []Pair becomes the word of the walks. -/
import Derived.Test.YtlegpkdighoflaaMA
import Derived.ProofKit
import Derived.OpenShut
import Derived.ShutString
import Derived.Deep.Slices
import Derived.Test.YtlegpkdighoflaaMG
set_option linter.unusedVariables false
set_option linter.unusedSimpArgs false
namespace Go.Proofs.Ytlegpkdighoflaa
open Go Go.RowKit Go.ChangeShapes Go.WideShapes Go.ChangeAt
section
variable {H : Type} {enc : TypeId × Value → H} {P : Program} {w : World} {base : Nat} {spare : Nat → Bool} {held : Bool}
theorem byteOf {n : Int} (h : (Lit.int .u8 n).wf = true) : n = n8 (UInt8.ofNat n.toNat) := by
  have hb := bounds_u8 h
  unfold n8
  rw [UInt8.toNat_ofNat']
  omega
/-- What a list's reading says of its length. -/
def Long (d : DataW H) (n : Nat) : Prop := n = 0 ∨ ∃ es sp, d = .slice es sp ∧ es.length = n
/-- An argument of type []byte. -/
theorem open_bytes {t e : TypeId} (ht : P.underlying t = some (.slice e)) (he : P.underlying e = some (.int .u8)) (hc : P.cellsOf e = 1) {fuel : Nat} {cs : List Value} {x : DataW H × List MemPlace}
    (h : DataW.trod enc P w base spare held fuel t cs = some x) : ∃ v l, cs = [v] ∧ By w 0 w.heap.size v l ∧ Long x.1 l.length := by
  rcases open_ints ht he hc h with ⟨hcs, _⟩ | ⟨a, len, cap, zs, hcs, _, hl, hm, hz, hx, hcell, hwz⟩
  · exact ⟨_, [], hcs, By.nil w 0 _, .inl rfl⟩
  · have hzl : len ≤ zs.length := by rw [hz]; split <;> omega
    have hlen : ((zs.take len).map (fun n => UInt8.ofNat n.toNat)).length = len := by simp; omega
    refine ⟨_, (zs.take len).map (fun n => UInt8.ofNat n.toNat), hcs, ?_, .inr ⟨_, _, by rw [hx], by rw [hlen]; simp [lits]; omega⟩⟩
    rcases Nat.eq_zero_or_pos len with h0 | h0
    · subst h0
      exact By.mk_ (l := []) (by simp) hm (.inl rfl)
    · have hc0 := hcell 0 (by omega)
      have hs : a.spot = none := World.cell?_spot (by simpa [Addr.add] using hc0)
      have hblk : a.block < w.heap.size := block_lt_of_cell (by simpa [Addr.add] using hc0)
      obtain ⟨g, o, s⟩ := a
      simp only at hs hblk
      subst hs
      have h1 := By.mk_ (w := w) (lo := 0) (B := w.heap.size) (A := some ⟨g, o, none⟩) (c := cap) (l := (zs.take len).map (fun n => UInt8.ofNat n.toNat)) (by omega) hm (.inr ⟨g, o, rfl, Nat.zero_le _, hblk, fun j u hj => ?_⟩)
      · rw [hlen] at h1
        exact h1
      · rw [List.map_map] at hj
        have hjl : j < len := by
          have := (List.getElem?_eq_some_iff.1 hj).1
          simp at this; omega
        rw [List.getElem?_map, List.getElem?_take, if_pos hjl, List.getElem?_eq_getElem (by omega)] at hj
        simp only [Option.map_some, Option.some.injEq, Function.comp] at hj
        have hcj := hcell j (by omega)
        rw [addr_lit] at hcj
        rw [hcj, ← hj]
        have hw8 := byteOf (hwz (zs[j]'(by omega)) (List.getElem_mem _))
        simp only [List.getD_eq_getElem?_getD, List.getElem?_eq_getElem (show j < zs.length by omega), Option.getD_some]
        rw [v8, ← hw8]
/-- An argument of type [][]byte. -/
theorem open_parts {t u e : TypeId} (ht : P.underlying t = some (.slice u)) (hu : P.underlying u = some (.slice e)) (he : P.underlying e = some (.int .u8)) (hcu : P.cellsOf u = 1) (hc : P.cellsOf e = 1) {fuel : Nat} {cs : List Value} {x : DataW H × List MemPlace}
    (h : DataW.trod enc P w base spare held fuel t cs = some x) : ∃ v ls, cs = [v] ∧ Parts w w.heap.size v ls ∧
      (ls = [] ∨ ∃ es sp, x.1 = .slice es sp ∧ es.length = ls.length ∧ ∀ (i : Nat) (d : DataW H) (l : List UInt8), es[i]? = some d → ls[i]? = some l → Long d l.length) := by
  rcases Go.Deep.open_slice ht h with ⟨hcs, _⟩ | ⟨a, len, cap, m, n, D, Pl, hcs, _, hl, hm, hmm, hx, hi⟩
  · exact ⟨_, [], hcs, ⟨[], ⟨none, 0, rfl, Nat.le_refl _, by simp [maxLen], .inl rfl⟩, rfl, fun i x l hx => by simp at hx⟩, .inl rfl⟩
  · have hml : len ≤ m := by rw [hmm]; split <;> omega
    have each : ∀ i, ∃ p : Value × List UInt8, i < len → w.cell? (a.add i) = some p.1 ∧ By w 0 w.heap.size p.1 p.2 ∧ Long (D i) p.2.length := by
      intro i
      by_cases hil : i < len
      · obtain ⟨cs', hcl, htr⟩ := hi i (by omega)
        rw [hcu, Nat.mul_one] at hcl
        obtain ⟨_, hlen, hat⟩ := World.cells?_some hcl
        obtain ⟨v, l, hv, hb, hlg⟩ := open_bytes hu he hc htr
        refine ⟨(v, l), fun _ => ⟨?_, hb, hlg⟩⟩
        have := hat 0 (by omega)
        rw [addr_add, Nat.add_zero] at this
        rw [this, hv]; rfl
      · exact ⟨(.nilIface, []), fun h => absurd h hil⟩
    obtain ⟨f, hf⟩ := Classical.skolem.1 each
    refine ⟨_, (List.range len).map fun i => (f i).2, hcs, ⟨(List.range len).map fun i => (f i).1, ⟨some a, cap, by simp, by simpa using hl, hm, ?_⟩, by simp, fun i y l hy hl' => ?_⟩, .inr ⟨(List.range len).map D, _, by rw [hx], by simp, fun i d l hd hl' => ?_⟩⟩
    · rcases Nat.eq_zero_or_pos len with h0 | h0
      · subst h0; exact .inl rfl
      · have hc0 := (hf 0 h0).1
        have hs : a.spot = none := World.cell?_spot (by simpa [Addr.add] using hc0)
        have hblk : a.block < w.heap.size := block_lt_of_cell (by simpa [Addr.add] using hc0)
        obtain ⟨g, o, s⟩ := a
        simp only at hs hblk
        subst hs
        refine .inr ⟨g, o, rfl, Nat.zero_le _, hblk, fun j u hj => ?_⟩
        have hjl : j < len := by
          have := (List.getElem?_eq_some_iff.1 hj).1
          simpa using this
        have := (hf j hjl).1
        rw [addr_lit] at this
        rw [this]
        simpa [hjl] using hj
    · have hil : i < len := by
        have := (List.getElem?_eq_some_iff.1 hy).1
        simpa using this
      simp [hil] at hy hl'
      subst hy; subst hl'
      exact (hf i hil).2.1
    · have hil : i < len := by
        have := (List.getElem?_eq_some_iff.1 hd).1
        simpa using this
      simp [hil] at hd hl'
      subst hd; subst hl'
      exact (hf i hil).2.2
end
end Go.Proofs.Ytlegpkdighoflaa
namespace Go.Proofs.Ytlegpkdighoflaa
open Go Go.RowKit Go.ChangeShapes Go.WideShapes Go.ChangeAt
section
variable {H : Type} {enc : TypeId × Value → H} {P : Program} {w : World} {base : Nat} {spare : Nat → Bool} {held : Bool}
theorem trod_h32 {t e : TypeId} (ht : P.underlying t = some (.array 32 e)) (he : P.underlying e = some (.int .u8)) (hc : P.cellsOf e = 1) (hct : P.cellsOf t = 32) {fuel : Nat} {cs : List Value} {x : DataW H × List MemPlace}
    (h : DataW.trod enc P w base spare held fuel t cs = some x) : ∃ l : List UInt8, cs = c8 l ∧ l.length = 32 := by
  obtain ⟨xs, m, _, _, hl, hxl, hel⟩ := DataW.trod_array ht h
  rw [hct] at hl
  have each : ∀ i, i < 32 → ∃ b : UInt8, cs[i]? = some (v8 b) := by
    intro i hi
    have h1 := hel i hi
    rw [hc, Nat.mul_one, List.getElem?_eq_getElem (by omega)] at h1
    obtain ⟨n, hn, _, hw⟩ := DataW.trod_int he h1
    refine ⟨UInt8.ofNat n.toNat, ?_⟩
    rw [v8, ← byteOf hw]
    have h2 := congrArg (fun l => l[0]?) hn
    simpa [List.getElem?_take, List.getElem?_drop] using h2
  refine ⟨cs.map fun c => match c with | .int _ n => UInt8.ofNat n.toNat | _ => 0, ?_, by simpa using hl⟩
  apply List.ext_getElem?
  intro i
  by_cases hi : i < 32
  · obtain ⟨b, hb⟩ := each i hi
    simp only [c8, List.getElem?_map, hb, Option.map_some, Option.some.injEq]
    unfold v8 n8
    simp
  · rw [List.getElem?_eq_none (by omega), List.getElem?_eq_none (by simp [c8]; omega)]
/-- An argument of type [32]byte. -/
theorem open_h32 {r : Reach} {b0 : Nat} {t e : TypeId} {v : Value} {d : DataW H} {ps : List MemPlace} (ht : P.underlying t = some (.array 32 e)) (he : P.underlying e = some (.int .u8)) (hc : P.cellsOf e = 1) (hct : P.cellsOf t = 32)
    (hval : Value.okWide P w r b0 t v) (hd : DataW.Trod enc P w base spare held t v d ps) : ∃ l : List UInt8, v = A8 l ∧ l.length = 32 := by
  unfold Value.okWide at hval
  rw [ht] at hval
  obtain ⟨cs, rfl, _, _⟩ := hval
  obtain ⟨fuel, hf⟩ := hd
  obtain ⟨l, h1, h2⟩ := trod_h32 ht he hc hct hf
  refine ⟨l, ?_, h2⟩
  simp only [Value.cells] at h1
  rw [A8, ← h1]
end
end Go.Proofs.Ytlegpkdighoflaa
namespace Go.Proofs.Ytlegpkdighoflaa
open Go Go.RowKit Go.ChangeShapes Go.WideShapes Go.ChangeAt Sh
section
variable {H : Type} {enc : TypeId × Value → H} {P : Program} {w : World} {base : Nat} {spare : Nat → Bool} {held : Bool}
theorem trod_pair {t h e : TypeId} {fs : Array Field} {f0 f1 : Field} (ht : P.underlying t = some (.struct fs)) (h0 : fs[0]? = some f0) (h1 : fs[1]? = some f1) (e0 : (f0.type, f0.offset) = (h, 0)) (e1 : (f1.type, f1.offset) = (h, 32))
    (hh : P.underlying h = some (.array 32 e)) (he : P.underlying e = some (.int .u8)) (hc : P.cellsOf e = 1) (hch : P.cellsOf h = 32) (hct : P.cellsOf t = 64) {fuel : Nat} {cs : List Value} {x : DataW H × List MemPlace}
    (hx : DataW.trod enc P w base spare held fuel t cs = some x) : ∃ p : Pr, cs = c8 (pb p) ∧ PrOk p := by
  obtain ⟨xs, n, _, _, hl, hxl, hel⟩ := DataW.trod_struct ht hx
  injection e0 with t0 o0
  injection e1 with t1 o1
  have hs2 : 2 ≤ fs.size := by
    have := (Array.getElem?_eq_some_iff.1 h1).1; omega
  have g0 := hel 0 f0 h0
  have g1 := hel 1 f1 h1
  rw [t0, o0, hch, List.getElem?_eq_getElem (by omega)] at g0
  rw [t1, o1, hch, List.getElem?_eq_getElem (by omega)] at g1
  obtain ⟨k, hk, hk2⟩ := trod_h32 hh he hc hch g0
  obtain ⟨v, hv, hv2⟩ := trod_h32 hh he hc hch g1
  rw [hct] at hl
  refine ⟨(k, v), ?_, hk2, hv2⟩
  have e : cs = cs.take 32 ++ (cs.drop 32).take 32 := by
    rw [List.take_of_length_le (i := 32) (l := cs.drop 32) (by simp; omega), List.take_append_drop]
  rw [e]
  rw [List.drop_zero] at hk
  rw [hk, hv]
  simp [pb, c8]
/-- An argument of type []Pair. -/
theorem open_pairs {u t h e : TypeId} {fs : Array Field} {f0 f1 : Field} (hu : P.underlying u = some (.slice t)) (ht : P.underlying t = some (.struct fs)) (h0 : fs[0]? = some f0) (h1 : fs[1]? = some f1) (e0 : (f0.type, f0.offset) = (h, 0)) (e1 : (f1.type, f1.offset) = (h, 32))
    (hh : P.underlying h = some (.array 32 e)) (he : P.underlying e = some (.int .u8)) (hc : P.cellsOf e = 1) (hch : P.cellsOf h = 32) (hct : P.cellsOf t = 64) {fuel : Nat} {cs : List Value} {x : DataW H × List MemPlace}
    (hx : DataW.trod enc P w base spare held fuel u cs = some x) : ∃ v l, cs = [v] ∧ Ps w 0 w.heap.size v l := by
  rcases Go.Deep.open_slice hu hx with ⟨hcs, _⟩ | ⟨a, len, cap, m, n, D, Pl, hcs, _, hl, hm, hmm, _, hi⟩
  · exact ⟨_, [], hcs, Ps.nil _ _ _⟩
  · have hml : len ≤ m := by rw [hmm]; split <;> omega
    have each : ∀ i, ∃ p : Pr, i < len → PrOk p ∧ ∀ j u, (c8 (pb p))[j]? = some u → w.cell? (a.add (i * 64 + j)) = some u := by
      intro i
      by_cases hil : i < len
      · obtain ⟨cs', hcl, htr⟩ := hi i (by omega)
        rw [hct] at hcl
        obtain ⟨_, hlen, hat⟩ := World.cells?_some hcl
        obtain ⟨p, hp, hok⟩ := trod_pair ht h0 h1 e0 e1 hh he hc hch hct htr
        refine ⟨p, fun _ => ⟨hok, fun j u hj => ?_⟩⟩
        have hjl : j < 64 := by have := (List.getElem?_eq_some_iff.1 hj).1; rw [length_c8, hok.len] at this; exact this
        have := hat j hjl
        rw [addr_add] at this
        rw [this, hp, hj]
      · exact ⟨([], []), fun h => absurd h hil⟩
    obtain ⟨f, hf⟩ := Classical.skolem.1 each
    have hok : ∀ p ∈ (List.range len).map f, PrOk p := by
      intro p hp
      obtain ⟨i, hi', rfl⟩ := List.mem_map.1 hp
      exact (hf i (List.mem_range.1 hi')).1
    have hln : ((List.range len).map f).length = len := by simp
    refine ⟨_, (List.range len).map f, hcs, hok, some a, cap, by rw [hln], by omega, hm, ?_⟩
    rcases Nat.eq_zero_or_pos len with hz | hz
    · subst hz; exact .inl rfl
    · have hc0 := (hf 0 hz).2 0 _ (c8_at (by rw [(hf 0 hz).1.len]; omega))
      have hs : a.spot = none := World.cell?_spot (by simpa [Addr.add] using hc0)
      have hblk : a.block < w.heap.size := block_lt_of_cell (by simpa [Addr.add] using hc0)
      obtain ⟨g, o, s⟩ := a
      simp only at hs hblk
      subst hs
      refine .inr ⟨g, o, rfl, Nat.zero_le _, hblk, fun j u hj => ?_⟩
      have hjl := (List.getElem?_eq_some_iff.1 hj).1
      rw [length_c8, length_flat hok, hln] at hjl
      have hjd : j / 64 < len := by omega
      have hat := flat_at hok (i := j / 64) (p := f (j / 64)) (by simp [hjd])
      have hcell : (c8 (pb (f (j / 64))))[j % 64]? = some u := by
        rw [← hat]
        simp only [c8, List.getElem?_map, List.getElem?_take, List.getElem?_drop, if_pos (show j % 64 < 64 by omega)]
        rw [show j / 64 * 64 + j % 64 = j by omega]
        simpa [c8] using hj
      have := (hf (j / 64) hjd).2 (j % 64) u hcell
      rw [addr_lit, show j / 64 * 64 + j % 64 = j by omega] at this
      exact this
end
noncomputable def pairF0 : Field := (fieldsOf Try.prog 26).getD 0 default
noncomputable def pairF1 : Field := (fieldsOf Try.prog 26).getD 1 default
end Go.Proofs.Ytlegpkdighoflaa
