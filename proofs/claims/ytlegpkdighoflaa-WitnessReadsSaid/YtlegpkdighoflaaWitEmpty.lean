/- witanlaw10.WitnessEmpty answers true. -/
import Derived.Test.YtlegpkdighoflaaWitK
import Derived.Test.YtlegpkdighoflaaWitL
import Derived.Test.YtlegpkdighoflaaHeldMore
set_option linter.unusedVariables false
set_option linter.unusedSimpArgs false
namespace Go.Proofs.Ytlegpkdighoflaa
open Go Go.RowKit Sh
theorem cells_of2 {w : World} {g : Nat} {t : TypeId} {a b : Value} (h : Bk w g t [a, b]) : w.cell? ⟨g, 0, none⟩ = some a ∧ w.cell? ⟨g, 1, none⟩ = some b := ⟨h.at_ rfl, h.at_ rfl⟩
theorem Bk.row32' {w : World} {g : Nat} {t : TypeId} {l : List UInt8} (h : Bk w g t (c8 l)) (hl : l.length = 32) : rowAt w ⟨g, 0, none⟩ 32 = some (c8 l) := by have := h.rows; rwa [length_c8, hl] at this
/-- A tight part's bytes are read as that part. -/
theorem parse_bytes {p : Pt} {P : Nat → Bool} (ok : p.Ok 0 P) (ht : p.Tight) : parseB p.bytes = .ok p := by
  have h := rd_complete 256 [] p [] rfl (ok.congr fun i hi => by simp at hi) ht
  rw [List.append_nil] at h
  unfold parseB
  rw [h]
def WeF (w : World) (gk gT gq : Nat) (k : List UInt8) (T : Tr) (p : Option Addr) (q : Pt) (W : World) : Prop :=
  Bk W gk 24 (c8 k) ∧ Bk W gT 50 [.pointer p, .int .i64 0] ∧ Bk W gq 31 [q.val] ∧ At W W.heap.size T (.pointer p) ∧ Below w.heap.size w W
theorem WeF.more {w : World} {gk gT gq : Nat} {k : List UInt8} {T : Tr} {p : Option Addr} {q : Pt} {W W' : World} (h : WeF w gk gT gq k T p q W) (hb : Below W.heap.size W W') : WeF w gk gT gq k T p q W' :=
  ⟨h.1.below hb h.1.lt, h.2.1.below hb h.2.1.lt, h.2.2.1.below hb h.2.2.1.lt, (h.2.2.2.1.below hb).more hb.size, below_two h.2.2.2.2 hb h.2.2.2.2.size⟩
end Go.Proofs.Ytlegpkdighoflaa
