/- A part of the proof of AuditBatch. -/
import Derived.WalkKit
import Derived.WalkLawsBesides
import Derived.Lib.Hide
import Derived.Deep.OwnRows
import Derived.Test.YtdfpoofbgjilgaaGreatUae
set_option linter.unusedVariables false
set_option linter.unusedSimpArgs false
set_option maxRecDepth 100000
set_option maxHeartbeats 40000000
namespace Go.Proofs.YtdfpoofbgjilgaaGreat
open Go Go.RowKit Sh
namespace Sh
end Sh
namespace Sh
def up (S:List UInt32):List UInt64:=S.map (·.toUInt64)
def sd (N:UInt64):Nat→UInt64
 | 0=>N
 | j+1=>sd N j / 256
def lb (N:UInt64):Nat→List UInt8
 | 0=>[]
 | j+1=>(sd N j % 256).toUInt8::lb N j
def fl (L:Nat) (N:UInt64) (r:Nat):List UInt8:=List.replicate r 0++lb N (L-r)
end Sh
section
theorem By.alloc {w:World} {lo B:Nat} {v:Value} {l:List UInt8} (h:By w lo B v l) (hB:B≤w.heap.size) (o:Obj):By (w.alloc o) lo B v l:=h.below (((Below.refl _ _).alloc (Nat.le_refl _) _).mono hB)
theorem C5p:(Tryz.prog.info? 104).map (fun i=>(i.zero,i.size,i.bytes))=some (some (.int .u64 0),1,8):=by kernel_rfl
theorem E8r (n:Nat):madeCells #[.int .u8 0] n=(c8 (z8 n)).toArray:=by
 apply Array.ext';simp only[madeCells,c8,z8];apply List.ext_getElem
 ·simp
 ·intro i h1 h2;simp at h1;have e:v8 0=.int .u8 0:=rfl;simp[Nat.mod_one,e]
theorem D8l (n:Nat):madeCells #[.int .u64 0] n=(E6 (O8 n)).toArray:=by
 apply Array.ext';simp only[madeCells,E6,O8];apply List.ext_getElem
 ·simp
 ·intro i h1 h2;simp at h1;have e:Uu 0=.int .u64 0:=rfl;simp[Nat.mod_one,e]
section
variable {ops : Array Oper} {rest : List Oper} {o : Oper} {a : Act} {w : World} {Q : Exit → Act → World → Prop}
theorem D3a (hg:o.guard=none) (l c:Operand) (hop:o.op=.makeSlice 29 l c) (n:Nat) (kl kc:IntKind) (hl:a.eval l=.int kl (n:Int)) (hc:a.eval c=.int kc (n:Int)) (hn:n≤1000000)
 (hK:wpList Tryz.prog ops Q rest (a.put o.dst (.slice (some ⟨w.heap.size,0,none⟩) n n)) (w.alloc (.cells (c8 (z8 n)).toArray 5))):wpList Tryz.prog ops Q (o::rest) a w:=by
 obtain⟨i,hi,hz⟩:=Option.map_eq_some_iff.1 B8m;simp only[Prod.mk.injEq]at hz;refine wpList_make_row w hg l c _ hop _ i _ Tryz.underlying29 hi hz.1 hz.2.1 rfl kl kc n hl hc (by rw[hz.2.2];omega) (by omega) ?_;rw[E8r];exact hK
theorem A3d (hg:o.guard=none) (l c:Operand) (hop:o.op=.makeSlice 285 l c) (n:Nat) (kl kc:IntKind) (hl:a.eval l=.int kl (n:Int)) (hc:a.eval c=.int kc (n:Int)) (hn:n≤1000000)
 (hK:wpList Tryz.prog ops Q rest (a.put o.dst (.slice (some ⟨w.heap.size,0,none⟩) n n)) (w.alloc (.cells (E6 (O8 n)).toArray 104))):wpList Tryz.prog ops Q (o::rest) a w:=by
 obtain⟨i,hi,hz⟩:=Option.map_eq_some_iff.1 C5p;simp only[Prod.mk.injEq]at hz;refine wpList_make_row w hg l c _ hop _ i _ Tryz.underlying285 hi hz.1 hz.2.1 rfl kl kc n hl hc (by rw[hz.2.2];omega) (by omega) ?_;rw[D8l];exact hK
end
end
section
namespace Sh
def low (x:UInt64):UInt64:=x.toUInt32.toUInt64
def xs (L:Nat) (X:List UInt64):List UInt64:=X++O8 (L-X.length)
end Sh
open Go Go.RowKit Sh
end
def D7t (v:UInt64) (k:Nat):List UInt8:=(List.range 8).map fun j=>if 8-k≤j then g8 (J9 v) j else 0
@[simp] theorem D4g (v : UInt64) (k : Nat) : (D7t v k).length = 8 := by simp [D7t]
attribute [irreducible] D7t
end Go.Proofs.YtdfpoofbgjilgaaGreat
