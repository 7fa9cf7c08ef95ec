/- A part of the proof of AuditTells. -/
import Derived.Test.YtmllnpokbbabhaaGreatTbg
set_option linter.unusedVariables false
set_option linter.unusedSimpArgs false
set_option maxRecDepth 100000
set_option maxHeartbeats 40000000
namespace Go.Proofs.YtmllnpokbbabhaaGreat
open Go Go.RowKit Sh
section
structure Gw where
 id:List UInt8
 s:Sv
 m:Sv
def Gw.cells (r:Gw):List Value:=c8 r.id++[r.s.v,r.m.v]
def Gw.V (r:Gw):Value:=.agg r.cells.toArray
def Ux:Gw:=⟨z8 32,⟨none,0,0⟩,⟨none,0,0⟩⟩
theorem Gw.len {r:Gw} (h:r.id.length=32):r.cells.length=34:=by simp[Gw.cells,h]
theorem Gw.one (r:Gw):∀x∈r.cells,x.oneCell'=true:=by
 intro x hx;simp only[Gw.cells,List.mem_append,List.mem_cons,List.not_mem_nil,or_false]at hx;rcases hx with hx | rfl | rfl
 ·obtain⟨y,_,rfl⟩:=List.mem_map.1 hx;rfl
 ·rfl
 ·rfl
theorem C1o:(Tryz.prog.info? 51).map (·.size)=some 34:=by kernel_rfl
theorem C0l:((Tryz.prog.info? 51).bind (·.zero))=some Ux.V:=by kernel_rfl
theorem D2i:(Tryz.prog.info? 51).map (fun i=>(i.zero,i.size,i.bytes))=some (some Ux.V,34,80):=by kernel_rfl
theorem A7m:Tryz.prog.underlying 51=some (.struct (Q5 Tryz.prog 51)):=by kernel_rfl
theorem C4b (w:World):(Eu (Q5 Tryz.prog 51)).run Tryz.prog w=.ok #[(0,32),(32,1),(33,1)] w:=by kernel_rfl
@[go_sem] theorem F0c (r : Gw) : Value.agg r.cells.toArray = r.V := rfl
@[go_sem] theorem E2i (t : TypeId) (w : World) (raw : Result Next) (r : Gw) : Sq t w raw r.V = .ok (.value (.pointer (some ⟨w.heap.size, 0, none⟩))) (w.alloc (.cells r.cells.toArray t)) := rfl
@[go_sem] theorem E0u (n : Nat) (w : World) (raw : Result Next) (a : Addr) (r : Gw) : X5 n w raw (.pointer (some a)) r.V =
 if r.cells.length=n∧F9 w a n=true then .ok .skip (C2 w a r.cells) else raw:=by
 have h1:(r.cells.toArray.all (·.oneCell'))=true:=by rw[Array.all_eq_true'];intro x hx;exact r.one x (by simpa using hx)
 unfold Gw.V;rw[Me,h1];simp only[List.size_toArray,true_and]
section
variable (w : World) (ρ : Operand → Value) (dst : Option Tmp) (ty : TypeId) (pos : String) (after : Array Edge) (guard : Option (Nat × Bool))
@[go_sem ↓ high] theorem E8g:RL' 51 34:=LL' A7m C1o
@[go_sem ↓ high] theorem E7k:RS' 51 34:=SS' C1o
@[go_sem ↓ high] theorem E6c:RA' 51 Ux.cells.toArray:=fun w ρ dst ty pos after guard=>N8 w ρ dst ty pos after guard 51 Ux.V C0l
@[go_sem ↓ high] theorem F1d:RB' 51:=BX' _
end
noncomputable def C0g (w:World) (raw:Result Next) (a:Value):Result Next:=match Bs a with
 | some i=>if i.length=32 then .ok (.value (Gw.V ⟨i,⟨none,0,0⟩,⟨none,0,0⟩⟩)) w else raw
 | _=>raw
@[go_sem] theorem E3n (w : World) (raw : Result Next) (i : List UInt8) (hi : i.length = 32) : C0g w raw (A8 i) = .ok (.value (Gw.V ⟨i, ⟨none, 0, 0⟩, ⟨none, 0, 0⟩⟩)) w := by
 unfold C0g;simp only[X7];simp[hi]
theorem D6s (i:List UInt8) (hi:i.length=32) (w:World):(Instr.build 51 #[(0,A8 i)]).run Tryz.prog w=.ok (Gw.V ⟨i,⟨none,0,0⟩,⟨none,0,0⟩⟩) w:=by
 have aA:Ux.V.cells.toList=c8 (z8 32)++[.slice none 0 0,.slice none 0 0]:=rfl;have h1:=Q8 A7m C0l w (C4b w) #[(0,A8 i)] [(0,c8 i)] (by
  rw[aA];exact ⟨by simp[hi],rfl,by simp[hi],trivial⟩)
 refine h1.trans (congrArg (fun (cs:List Value)=>Result.ok (Value.agg cs.toArray) w) ?_);rw[aA];simp[Gl,Y7,hi,List.take_append,List.drop_append,List.drop_eq_nil_of_le,List.take_of_length_le,Gw.cells,Sv.v,c8]
@[go_sem ↓ high] theorem E5g (w : World) (ρ : Operand → Value) (dst : Option Tmp) (ty : TypeId) (pos : String) (after : Array Edge) (guard : Option (Nat × Bool)) (x : Operand) :
 (execOp ρ { dst,op:=.build 51 #[(0,x)],type:=ty,pos,after,guard }).run Tryz.prog w=C0g w (O9 Tryz.prog ρ { dst,op:=.build 51 #[(0,x)],type:=ty,pos,after,guard } w) (ρ x):=by
 generalize h0:ρ x=a;unfold C0g;split
 ·rename_i i g0
  replace g0:=U3 g0;split
  ·rename_i h
   refine U1 w ρ dst ty pos after guard _ _ _ ?_;simp only[List.map_toArray,List.map_cons,List.map_nil,h0,g0];exact D6s i h w
  ·rfl
 ·rfl
@[go_sem ↓ high] theorem F0h (w : World) (ρ : Operand → Value) (dst : Option Tmp) (ty : TypeId) (pos : String) (after : Array Edge) (guard : Option (Nat × Bool)) (x : Operand) :
 (execOp ρ { dst,op:=.buildSlice 44 1 #[(0,x)],type:=ty,pos,after,guard }).run Tryz.prog w=Kv 34 51 w (O9 Tryz.prog ρ { dst,op:=.buildSlice 44 1 #[(0,x)],type:=ty,pos,after,guard } w) (ρ x):=
 Rp w ρ dst ty pos after guard 44 51 34 80 Ux.V x Tryz.underlying44 D2i (by simp[Gw.V,Ux,Gw.cells,Value.cells]) (by decide) (by decide)
@[go_sem] theorem E3a (n : Nat) (e : TypeId) (w : World) (raw : Result Next) (r : Gw) (h : r.cells.length = n) : Kv n e w raw r.V = .ok (.value (.slice (some ⟨w.heap.size, 0, none⟩) 1 1)) (w.alloc (.cells r.cells.toArray e)) := by
 unfold Gw.V;rw[Xy,if_pos (by simpa using h)]
noncomputable def C2m (w:World) (raw:Result Next) (a:Value):Result Next:=match Bs a with
 | some i=>if i.length=32 then .ok (.value (Rk ⟨i,0,z8 32,z8 64⟩)) w else raw
 | _=>raw
@[go_sem] theorem E4d (w : World) (raw : Result Next) (i : List UInt8) (hi : i.length = 32) : C2m w raw (A8 i) = .ok (.value (Rk ⟨i, 0, z8 32, z8 64⟩)) w := by
 unfold C2m;simp only[X7];simp[hi]
theorem D5h (i:List UInt8) (hi:i.length=32) (w:World):(Instr.build 69 #[(0,A8 i)]).run Tryz.prog w=.ok (Rk ⟨i,0,z8 32,z8 64⟩) w:=by
 have aA:(Rk (Gk 129)).cells.toList=c8 (z8 32)++(.int .i64 0::(c8 (z8 32)++c8 (z8 64))):=rfl;have h1:=Q8 A6n C0y w (C5i w) #[(0,A8 i)] [(0,c8 i)] (by
  rw[aA];exact ⟨by simp[hi],rfl,by simp[hi],trivial⟩)
 refine h1.trans (congrArg (fun (cs:List Value)=>Result.ok (Value.agg cs.toArray) w) ?_);rw[aA];simp[Gl,Y7,hi,List.take_append,List.drop_append,List.drop_eq_nil_of_le,List.take_of_length_le,N9,c8]
@[go_sem ↓ high] theorem E1z (w : World) (ρ : Operand → Value) (dst : Option Tmp) (ty : TypeId) (pos : String) (after : Array Edge) (guard : Option (Nat × Bool)) (x : Operand) :
 (execOp ρ { dst,op:=.build 69 #[(0,x)],type:=ty,pos,after,guard }).run Tryz.prog w=C2m w (O9 Tryz.prog ρ { dst,op:=.build 69 #[(0,x)],type:=ty,pos,after,guard } w) (ρ x):=by
 generalize h0:ρ x=a;unfold C2m;split
 ·rename_i i g0
  replace g0:=U3 g0;split
  ·rename_i h
   refine U1 w ρ dst ty pos after guard _ _ _ ?_;simp only[List.map_toArray,List.map_cons,List.map_nil,h0,g0];exact D5h i h w
  ·rfl
 ·rfl
end
end Go.Proofs.YtmllnpokbbabhaaGreat
