/- sha.Sum512 answers sum64 of its parts joined (parts of up to 2^40 bytes together), and leaves what was there as it was. -/
import Derived.Test.YtlegpkdighoflaaMA
import Derived.Test.YtlegpkdighoflaaMB
import Derived.WalkKit
import Derived.WalkLawsBesides
import Derived.Outline
import Derived.Lib.Hide
set_option linter.unusedVariables false
set_option linter.unusedSimpArgs false
namespace Go.Proofs.Ytlegpkdighoflaa
open Go Go.RowKit Sh
/-- A word out of its first j bytes. -/
def wf (q : List UInt8) (k j : Nat) : UInt64 := ((q.drop (8 * k)).take j).foldl (fun m x => m <<< 8 ||| x.toUInt64) 0
theorem wf_step (q : List UInt8) (k j : Nat) (h : 8 * k + j < q.length) : wf q k (j + 1) = wf q k j <<< 8 ||| (g8 q (8 * k + j)).toUInt64 := by
  unfold wf g8
  rw [List.take_add_one, List.foldl_append, List.getElem?_drop, List.getElem?_eq_getElem h]
  simp [h]
end Go.Proofs.Ytlegpkdighoflaa
