/- How a row's reading of an argument of type [32]byte becomes the word of the walks. -/
import Derived.Test.YtpalomkcgfalnaaOpen
set_option linter.unusedVariables false
set_option linter.unusedSimpArgs false
namespace Go.Proofs.Ytpalomkcgfalnaa
open Go Go.RowKit Go.ChangeShapes Go.WideShapes Go.ChangeAt
section
variable {H : Type} {enc : TypeId × Value → H} {P : Program} {w : World} {base : Nat} {spare : Nat → Bool} {held : Bool}
theorem trod_h32 {t e : TypeId} (ht : P.underlying t = some (.array 32 e)) (he : P.underlying e = some (.int .u8)) (hc : P.cellsOf e = 1) (hct : P.cellsOf t = 32) {fuel : Nat} {cs : List Value} {x : DataW H × List MemPlace}
    (h : DataW.trod enc P w base spare held fuel t cs = some x) : ∃ l : List UInt8, cs = c8 l ∧ l.length = 32 := by
  obtain ⟨xs, m, _, _, hl, hxl, hel⟩ := DataW.trod_array ht h
  rw [hct] at hl
  have each : ∀ i, i < 32 → ∃ b : UInt8, cs[i]? = some (v8 b) := by
    intro i hi
    have h1 := hel i hi
    rw [hc, Nat.mul_one, List.getElem?_eq_getElem (by omega)] at h1
    obtain ⟨n, hn, _, hw⟩ := DataW.trod_int he h1
    refine ⟨UInt8.ofNat n.toNat, ?_⟩
    rw [v8, ← byteOf hw]
    have h2 := congrArg (fun l => l[0]?) hn
    simpa [List.getElem?_take, List.getElem?_drop] using h2
  refine ⟨cs.map fun c => match c with | .int _ n => UInt8.ofNat n.toNat | _ => 0, ?_, by simpa using hl⟩
  apply List.ext_getElem?
  intro i
  by_cases hi : i < 32
  · obtain ⟨b, hb⟩ := each i hi
    simp only [c8, List.getElem?_map, hb, Option.map_some, Option.some.injEq]
    unfold v8 n8
    simp
  · rw [List.getElem?_eq_none (by omega), List.getElem?_eq_none (by simp [c8]; omega)]
/-- An argument of type [32]byte. -/
theorem open_h32 {r : Reach} {b0 : Nat} {t e : TypeId} {v : Value} {d : DataW H} {ps : List MemPlace} (ht : P.underlying t = some (.array 32 e)) (he : P.underlying e = some (.int .u8)) (hc : P.cellsOf e = 1) (hct : P.cellsOf t = 32)
    (hval : Value.okWide P w r b0 t v) (hd : DataW.Trod enc P w base spare held t v d ps) : ∃ l : List UInt8, v = A8 l ∧ l.length = 32 := by
  unfold Value.okWide at hval
  rw [ht] at hval
  obtain ⟨cs, rfl, _, _⟩ := hval
  obtain ⟨fuel, hf⟩ := hd
  obtain ⟨l, h1, h2⟩ := trod_h32 ht he hc hct hf
  refine ⟨l, ?_, h2⟩
  simp only [Value.cells] at h1
  rw [A8, ← h1]
end
end Go.Proofs.Ytpalomkcgfalnaa
