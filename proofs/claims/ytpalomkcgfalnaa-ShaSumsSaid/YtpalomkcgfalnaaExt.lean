/- Regions that draw their order and whose calls make memory: the class of worlds that are the one at hand with blocks behind it. Loads of old blocks, arithmetic and calls whose value hangs on nothing new are walked once. -/
import Derived.Test.YtpalomkcgfalnaaQt
import Derived.Test.YtpalomkcgfalnaaMore
set_option linter.unusedVariables false
set_option linter.unusedSimpArgs false
namespace Go.Proofs.Ytpalomkcgfalnaa
open Go Go.RowKit
/-- w with more blocks behind it, at another count of draws. -/
structure More where
  objs : Array Obj
  at_ : Nat
instance : Inhabited More := ⟨⟨#[], 0⟩⟩
def ext (w : World) (p : More) : World := { w with heap := w.heap ++ p.objs, drawn := p.at_ }
theorem below_ext (w : World) (p : More) : Below w.heap.size w (ext w p) :=
  ⟨rfl, rfl, rfl, by simp [ext], fun k hk => by simp [ext, Array.getElem?_append, hk]⟩
theorem ext_of_below {w w' : World} (h : Below w.heap.size w w') : ∃ p, w' = ext w p := by
  refine ⟨⟨(w'.heap.toList.drop w.heap.size).toArray, w'.drawn⟩, ?_⟩
  obtain ⟨hp, tp, dr, os, ou⟩ := w
  obtain ⟨hp', tp', dr', os', ou'⟩ := w'
  obtain ⟨h1, h2, h3, h4, h5⟩ := h
  simp only at h1 h2 h3 h4 h5
  subst h1; subst h2; subst h3
  unfold ext
  congr 1
  apply Array.ext_getElem?
  intro i
  rcases Nat.lt_or_ge i hp.size with hlt | hge
  · rw [h5 i hlt, Array.getElem?_append_left hlt]
  · rw [Array.getElem?_append_right hge]
    have e : hp.size + (i - hp.size) = i := by omega
    simp [e]
section
variable {w : World} {p : More} {a : Addr} {n : Nat}
@[go_sem] theorem ext_drewN (k : Nat) : ext (w.drewN k) p = ext w p := rfl
@[go_sem] theorem ext_drew : ext w.drew p = ext w p := rfl
@[go_sem] theorem ext_cell (h : a.block < w.heap.size) : (ext w p).cell? a = w.cell? a := (below_ext w p).cell h
@[go_sem] theorem ext_frozen (h : a.block < w.heap.size) : (ext w p).frozen? a = w.frozen? a := (below_ext w p).frozen h
@[go_sem] theorem ext_row (h : a.block < w.heap.size) : rowAt (ext w p) a n = rowAt w a n := rowAt_below (below_ext w p) h
@[go_sem] theorem ext_can (h : a.block < w.heap.size) : canAt (ext w p) a n = canAt w a n :=
  canAt_keep (fun q hq => (below_ext w p).cell (by omega)) (fun q hq => (below_ext w p).frozen (by omega))
end
section
variable {P : Program} {f : FuncId} {args : Array Value} {w : World} {p : More} {v : Value}
theorem quiet_ext (h : ∀ W : World, Below w.heap.size w W → Calls P f args W fun e w' => e = .returned v ∧ Below W.heap.size W w') :
    Calls P f args (ext w p) fun e w'' => e = .returned v ∧ ∃ q, w'' = ext w q :=
  (h _ (below_ext w p)).mono fun _ _ ⟨he, hb⟩ => ⟨he, ext_of_below ((below_ext w p).trans (hb.mono (below_ext w p).size))⟩
theorem quiet_ext_same (h : ∀ W : World, Calls P f args W fun e w' => e = .returned v ∧ w' = W) :
    Calls P f args (ext w p) fun e w'' => e = .returned v ∧ ∃ q, w'' = ext w q :=
  (h _).mono fun _ _ ⟨he, hm⟩ => ⟨he, p, hm⟩
theorem wp_ext {id : Nat} {Q : Exit → Act → World → Prop} {a : Act} {l : List Oper} (hm : P.follows .mixedOrders = true) (hB : Region.lexB .any l.toArray = true)
    (h : wpQuiet P l.toArray (fun w' => ∃ p, w' = ext w p) (fun a' => ∀ w', (∃ p, w' = ext w p) → Q .normal a' w') l a) : (Code.region id l.toArray true).wp P Q a w :=
  wp_region_quiet (C := fun w' => ∃ p, w' = ext w p) hm hB (ext_of_below ((Below.refl _ _).drew)) (by simpa using h)
theorem wp_ext_tail {id : Nat} {Q : Exit → Act → World → Prop} {a : Act} {l : List Oper} (n : Nat) (hm : P.follows .mixedOrders = true) (hB : Region.lexTailB .any l.toArray n = true)
    (h : wpQuiet P l.toArray (fun w' => ∃ p, w' = ext w p) (fun a' => ∀ w', (∃ p, w' = ext w p) → wpList P l.toArray Q (l.drop n) a' w') (l.take n) a) : (Code.region id l.toArray true).wp P Q a w :=
  wp_quiet_tail_in (fun w' => ∃ p, w' = ext w p) n hm hB (ext_of_below ((Below.refl _ _).drew)) h
end
end Go.Proofs.Ytpalomkcgfalnaa
