/- The loops of witanref02.Digest, taken out of its body; its numbers. -/
import Derived.Test.YtpalomkcgfalnaaRefE
set_option linter.unusedVariables false
set_option linter.unusedSimpArgs false
namespace Go.Proofs.Ytpalomkcgfalnaa
open Go Go.RowKit
def loopsOf : Code → List Code
  | .loop c => .loop c :: loopsOf c
  | .seq a b => loopsOf a ++ loopsOf b
  | .block _ c => loopsOf c
  | .scope c => loopsOf c
  | .cond _ a b => loopsOf a ++ loopsOf b
  | _ => []
noncomputable def digLoop (k : Nat) : Code := (Try.f19.body.bind fun c => (loopsOf c)[k]?).getD .skip
def ns32 : List Value := [.int .u64 2, .int .u64 13, .int .u64 22, .int .u64 6, .int .u64 11, .int .u64 25, .int .u64 7, .int .u64 18, .int .u64 3, .int .u64 17, .int .u64 19, .int .u64 10]
def ns64 : List Value := [.int .u64 28, .int .u64 34, .int .u64 39, .int .u64 14, .int .u64 18, .int .u64 41, .int .u64 1, .int .u64 8, .int .u64 7, .int .u64 19, .int .u64 61, .int .u64 6]
end Go.Proofs.Ytpalomkcgfalnaa
