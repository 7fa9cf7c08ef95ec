/- A part of the proof of DirBuilds. -/
import Derived.Outline
import Derived.WalkKit
import Derived.WalkLawsBesides
import Derived.Lib.Hide
import Derived.Deep.OwnRows
import Derived.Test.YtlegpkdighoflaaGreatSae
set_option linter.unusedVariables false
set_option linter.unusedSimpArgs false
set_option maxRecDepth 100000
set_option maxHeartbeats 40000000
namespace Go.Proofs.YtlegpkdighoflaaGreat
open Go Go.RowKit Sh
section
variable {P : Program} {l : List Oper} {Q : Exit → Act → World → Prop} {S : World → Prop} {w : World}
end
namespace Sh
end Sh
@[go_sem ↓ high] theorem E2j (x : UInt64) : Op.intDiv .rem .u64 (J0 x) 4294967296 = pure (.int .u64 (J0 (x % 4294967296))) := by
 unfold Op.intDiv J0;rw[if_neg (by decide),UInt64.toNat_mod];congr 2
@[go_sem ↓ high] theorem E0d (x : UInt64) : Op.intDiv .rem .u64 (J0 x) 256 = pure (.int .u64 (J0 (x % 256))) := by
 unfold Op.intDiv J0;rw[if_neg (by decide),UInt64.toNat_mod];congr 2
@[go_sem ↓ high] theorem D9v (x : UInt64) : Op.intArith .mul .u64 (J0 x) 256 = pure (.int .u64 (J0 (x * 256))) := A5n x 256
@[go_sem ↓ high] theorem E7u (x : UInt64) : Op.intArith .mul .u64 (J0 x) 8 = pure (.int .u64 (J0 (x * 8))) := A5n x 8
@[go_sem ↓ high] theorem D9t (x : UInt64) : Op.intDiv .quo .u64 (J0 x) 256 = pure (.int .u64 (J0 (x / 256))) := by
 have h:=Fz (x.toNat / 256);have hx:=Jn x;have e:Op.intDiv .quo .u64 (J0 x) 256=pure (.int .u64 (IntKind.u64.wrap ((x.toNat / 256:Nat):Int))):=rfl;rw[e,h,Nat.mod_eq_of_lt (by omega)];unfold J0;rw[UInt64.toNat_div];rfl
namespace Sh
def up (S:List UInt32):List UInt64:=S.map (·.toUInt64)
def sd (N:UInt64):Nat→UInt64
 | 0=>N
 | j+1=>sd N j / 256
def lb (N:UInt64):Nat→List UInt8
 | 0=>[]
 | j+1=>(sd N j % 256).toUInt8::lb N j
def fl (L:Nat) (N:UInt64) (r:Nat):List UInt8:=List.replicate r 0++lb N (L-r)
end Sh
section
theorem By.alloc {w:World} {lo B:Nat} {v:Value} {l:List UInt8} (h:By w lo B v l) (hB:B≤w.heap.size) (o:Obj):By (w.alloc o) lo B v l:=h.below (((Below.refl _ _).alloc (Nat.le_refl _) _).mono hB)
theorem C6r:(Tryz.prog.info? 117).map (fun i=>(i.zero,i.size,i.bytes))=some (some (.int .u64 0),1,8):=by kernel_rfl
theorem E4r (n:Nat):madeCells #[.int .u8 0] n=(c8 (z8 n)).toArray:=by
 apply Array.ext';simp only[madeCells,c8,z8];apply List.ext_getElem
 ·simp
 ·intro i h1 h2;simp at h1;have e:v8 0=.int .u8 0:=rfl;simp[Nat.mod_one,e]
theorem D7w (n:Nat):madeCells #[.int .u64 0] n=(C7 (J8 n)).toArray:=by
 apply Array.ext';simp only[madeCells,C7,J8];apply List.ext_getElem
 ·simp
 ·intro i h1 h2;simp at h1;have e:Vp 0=.int .u64 0:=rfl;simp[Nat.mod_one,e]
section
variable {ops : Array Oper} {rest : List Oper} {o : Oper} {a : Act} {w : World} {Q : Exit → Act → World → Prop}
theorem C9n (hg:o.guard=none) (l c:Operand) (hop:o.op=.makeSlice 45 l c) (n:Nat) (kl kc:IntKind) (hl:a.eval l=.int kl (n:Int)) (hc:a.eval c=.int kc (n:Int)) (hn:n≤1000000)
 (hK:wpList Tryz.prog ops Q rest (a.put o.dst (.slice (some ⟨w.heap.size,0,none⟩) n n)) (w.alloc (.cells (c8 (z8 n)).toArray 5))):wpList Tryz.prog ops Q (o::rest) a w:=by
 obtain⟨i,hi,hz⟩:=Option.map_eq_some_iff.1 A3y;simp only[Prod.mk.injEq]at hz;refine wpList_make_row w hg l c _ hop _ i _ Tryz.underlying45 hi hz.1 hz.2.1 rfl kl kc n hl hc (by rw[hz.2.2];omega) (by omega) ?_;rw[E4r];exact hK
theorem A3l (hg:o.guard=none) (l c:Operand) (hop:o.op=.makeSlice 197 l c) (n:Nat) (kl kc:IntKind) (hl:a.eval l=.int kl (n:Int)) (hc:a.eval c=.int kc (n:Int)) (hn:n≤1000000)
 (hK:wpList Tryz.prog ops Q rest (a.put o.dst (.slice (some ⟨w.heap.size,0,none⟩) n n)) (w.alloc (.cells (C7 (J8 n)).toArray 117))):wpList Tryz.prog ops Q (o::rest) a w:=by
 obtain⟨i,hi,hz⟩:=Option.map_eq_some_iff.1 C6r;simp only[Prod.mk.injEq]at hz;refine wpList_make_row w hg l c _ hop _ i _ Tryz.underlying197 hi hz.1 hz.2.1 rfl kl kc n hl hc (by rw[hz.2.2];omega) (by omega) ?_;rw[D7w];exact hK
end
end
section
namespace Sh
def xs (L:Nat) (X:List UInt64):List UInt64:=X++J8 (L-X.length)
end Sh
open Go Go.RowKit Sh
end
section
def V8 (w:World) (lo:Nat) (v:Value) (V:List UInt64):Prop:=∃c g o,v=.slice (some ⟨g,o,none⟩) 8 c∧8≤c∧c≤9223372036854775807∧lo≤g∧g<w.heap.size∧∀j,j<8→w.cell? ⟨g,o+j,none⟩=some (.int .u64 (J0 (J6 V j)))
section
variable {w w' : World} {lo : Nat} {v : Value} {V : List UInt64}
end
end
def D5s (v:UInt64) (k:Nat):List UInt8:=(List.range 8).map fun j=>if 8-k≤j then g8 (U9 v) j else 0
@[simp] theorem D3m (v : UInt64) (k : Nat) : (D5s v k).length = 8 := by simp [D5s]
attribute [irreducible] D5s
end Go.Proofs.YtlegpkdighoflaaGreat
