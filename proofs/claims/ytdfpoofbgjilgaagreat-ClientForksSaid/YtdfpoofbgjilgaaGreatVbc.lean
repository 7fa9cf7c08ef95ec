/- A part of the proof of ClientForks. -/
import Derived.Test.YtdfpoofbgjilgaaGreatVbb
set_option linter.unusedVariables false
set_option linter.unusedSimpArgs false
set_option maxRecDepth 100000
set_option maxHeartbeats 40000000
namespace Go.Proofs.YtdfpoofbgjilgaaGreat
open Go Go.RowKit Sh
section
structure AV where
 who:Int
 ver:Int
 key:Int
 wrong:Bool
 cut:Bool
def AV.cells (a:AV):List Value:=[.int .i64 a.who,.int .i64 a.ver,.int .i64 a.key,.bool a.wrong,.bool a.cut]
def As (w:World) (B:Nat) (v:Value) (l:List AV):Prop:=∃A c,v=.slice A l.length c∧l.length≤c∧c≤9223372036854775807∧Rd w 0 B A (l.flatMap AV.cells)
theorem B6x:Tryz.prog.underlying 135=some (.struct (I2 Tryz.prog 135)):=by kernel_rfl
theorem D1l:(Tryz.prog.info? 135).map (·.size)=some 5:=by kernel_rfl
theorem D1x:((Tryz.prog.info? 135).bind (·.zero))=some (.agg (AV.cells ⟨0,0,0,false,false⟩).toArray):=by kernel_rfl
section
variable (w : World) (ρ : Operand → Value) (dst : Option Tmp) (ty : TypeId) (pos : String) (after : Array Edge) (guard : Option (Nat × Bool))
theorem C6b:RL' 135 5:=LL' B6x D1l
end
def Co (v:Int):UInt8:=UInt8.ofNat (v % 256).toNat
theorem Ke (v:Int):IntKind.u8.wrap v=n8 (Co v):=by
 unfold n8 Co;rw[UInt8.toNat_ofNat'];simp only[IntKind.wrap,IntKind.bits,IntKind.signed,Bool.false_and,Bool.false_eq_true,if_false];omega
def RI (v:Value):Option (DataW Value×List MemPlace):=match v with | .int .i64 _=>some (.held v,[]) | _=>none
theorem E1k {v:Value} {y:DataW Value×List MemPlace} (h:RI v=some y):∃x,v=.int .i64 x:=by
 unfold RI at h;split at h
 ·exact ⟨_,rfl⟩
 ·cases h
theorem E0m:(Tryz.prog.info? 48).map (fun i=>(i.zero,i.size,i.bytes))=some (some (uvV (uvz 129)),129,136):=by kernel_rfl
@[go_sem ↓ high] theorem F7y (w : World) (ρ : Operand → Value) (dst : Option Tmp) (ty : TypeId) (pos : String) (after : Array Edge) (guard : Option (Nat × Bool)) (x : Operand) :
 (execOp ρ { dst,op:=.buildSlice 44 1 #[(0,x)],type:=ty,pos,after,guard }).run Tryz.prog w=Fu 129 48 w (F2 Tryz.prog ρ { dst,op:=.buildSlice 44 1 #[(0,x)],type:=ty,pos,after,guard } w) (ρ x):=
 Pj w ρ dst ty pos after guard 44 48 129 136 (uvV (uvz 129)) x Tryz.underlying44 E0m (by simp[uvV,Cj,uvz,Value.cells]) (by decide) (by decide)
@[go_sem] theorem E7y (n : Nat) (e : TypeId) (w : World) (raw : Result Next) (u : UV) (h : u.length = n) : Fu n e w raw (uvV u) = .ok (.value (.slice (some ⟨w.heap.size, 0, none⟩) 1 1)) (w.alloc (.cells (Cj u).toArray e)) := by
 unfold uvV;rw[A3k,if_pos (by rw[List.size_toArray];exact h)]
end
section
theorem C1w:RA' 135 #[.int .i64 0,.int .i64 0,.int .i64 0,.bool false,.bool false]:=fun w ρ dst ty pos after guard=>I7 w ρ dst ty pos after guard 135 (.agg (AV.cells ⟨0,0,0,false,false⟩).toArray) D1x
attribute [local go_sem ↓ high] C6b C1w
end
def Jt (s n:Nat):List Nat:=(List.range n).map (s + ·)
theorem Oa (s n:Nat):(Jt s n).length=n:=by simp[Jt]
theorem C9a {s n x:Nat}:x∈Jt s n↔s≤x∧x<s+n:=by
 unfold Jt;simp only[List.mem_map,List.mem_range];constructor
 ·rintro ⟨y,hy,rfl⟩;omega
 ·intro h;exact ⟨x-s,by omega,by omega⟩
theorem A5m (s n:Nat):Jt s (n+1)=Jt s n++[s+n]:=by unfold Jt;rw[List.range_succ,List.map_append];rfl
end Go.Proofs.YtdfpoofbgjilgaaGreat
