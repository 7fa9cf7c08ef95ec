/- A part of the proof of DirOrder. -/
import Derived.Test.YtlegpkdighoflaaGreatQbh
set_option linter.unusedVariables false
set_option linter.unusedSimpArgs false
set_option maxRecDepth 100000
set_option maxHeartbeats 40000000
namespace Go.Proofs.YtlegpkdighoflaaGreat
open Go Go.RowKit Sh
section
section
variable {w wr : World} {M b m : Nat} {ov gv uv bv : Value} {os gs : List Value} {bs : List (List UV)} {us : List UV}
theorem A9k {base sz k:Nat} {T:TypeId} {v:Value} {xs:List Value} (ho:wr.ownsRow base T sz v k xs) (hr:∀r,some b=some r→∃o:Obj,wr.heap[r]?=some o∧o.isCells=false):v.ownBlock=none∨v.ownBlock≠some b:=by
 obtain⟨o,h1,h2⟩:=hr b rfl;rcases ho.2 with ⟨hv,_⟩ | ⟨g,cap,cur,hv,_,hh,_⟩
 ·left;rw[hv];rfl
 ·right
  rw[hv];intro e;injection e with e;subst e;rw[hh]at h1;injection h1 with h1;subst h1;cases h2
end
theorem B1z:RA' 80 #[.int .i64 0,.int .i64 0,.int .i64 0,.bool false,.bool false]:=fun w ρ dst ty pos after guard=>Q0 w ρ dst ty pos after guard 80 (.agg (AV.cells ⟨0,0,0,false,false⟩).toArray) B7a
attribute [local go_sem ↓ high] B4m B1z
end
end Go.Proofs.YtlegpkdighoflaaGreat
