/- A part of the proof of ClientForks. -/
import Derived.Test.YtdfpoofbgjilgaaGreatVbg
set_option linter.unusedVariables false
set_option linter.unusedSimpArgs false
set_option maxRecDepth 100000
set_option maxHeartbeats 40000000
namespace Go.Proofs.YtdfpoofbgjilgaaGreat
open Go Go.RowKit Sh
section
set_option maxRecDepth 100000
set_option maxHeartbeats 0
end
section
set_option maxRecDepth 100000
set_option maxHeartbeats 0
end
section
set_option maxRecDepth 100000
set_option maxHeartbeats 0
end
section
set_option maxRecDepth 100000
set_option maxHeartbeats 0
end
section
set_option maxRecDepth 100000
set_option maxHeartbeats 0
end
section
set_option maxRecDepth 100000
set_option maxHeartbeats 0
end
section
set_option maxRecDepth 100000
set_option maxHeartbeats 0
end
section
set_option maxRecDepth 100000
set_option maxHeartbeats 0
end
section
set_option maxRecDepth 100000
set_option maxHeartbeats 0
end
def ki (k:Nat):Lit:=.int .i64 (k:Int)
def Ns (w:World) (B:Nat) (v:Value) (l:List Int):Prop:=∃A c,v=.slice A l.length c∧l.length≤c∧c≤9223372036854775807∧Rd w 0 B A (l.map (Value.int .i64))
theorem Ns.at_ {w:World} {B:Nat} {A:Option Addr} {n c:Nat} {l:List Int} (h:Ns w B (.slice A n c) l) {i:Nat} {a:Int} (ha:l[i]?=some a):∃g o,A=some ⟨g,o,none⟩∧g<B∧w.cell? ⟨g,o+i,none⟩=some (.int .i64 a):=by
 obtain⟨A',c',h1,h2,h3,h4⟩:=h;injection h1 with h1;subst h1;have hi:i<l.length:=(List.getElem?_eq_some_iff.1 ha).1;rcases h4 with h4 | ⟨g,o,h5,h6,h7,h8⟩
 ·have:(l.map (Value.int .i64)).length=0:=by rw[h4];rfl
  rw[List.length_map]at this;omega
 ·exact ⟨g,o,h5,h7,h8 _ _ (by rw[List.getElem?_map,ha];rfl)⟩
end Go.Proofs.YtdfpoofbgjilgaaGreat
