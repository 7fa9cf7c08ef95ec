/- A part of the proof of ClientForks. -/
import Derived.Test.YtdfpoofbgjilgaaGreatVay
set_option linter.unusedVariables false
set_option linter.unusedSimpArgs false
set_option maxRecDepth 100000
set_option maxHeartbeats 40000000
namespace Go.Proofs.YtdfpoofbgjilgaaGreat
open Go Go.RowKit Sh
section
def UH (w:World) (b:Nat) (us:List UV) (tl:List Value):Prop:=(∀u∈us,u.Ok)∧Bk w b 48 (us.flatMap Cj++tl)
theorem F7u:∀ {us:List UV},(∀u∈us,u.Ok)→(us.flatMap Cj).length=us.length*129:=by
 intro us;induction us with
 | nil=>intro _;rfl
 | cons u us ih=>
  intro h;have hu:(Cj u).length=129:=(h u (by simp)).len;rw[List.flatMap_cons,List.length_append,ih (fun x hx=>h x (by simp[hx])),hu,List.length_cons];omega
theorem uat:∀ {us:List UV},(∀u∈us,u.Ok)→∀ {i:Nat} {u:UV},us[i]?=some u→((us.flatMap Cj).drop (i*129)).take 129=Cj u:=by
 intro us;induction us with
 | nil=>intro _ i u h;simp at h
 | cons x us ih=>
  intro h i u hi;have hx:(Cj x).length=129:=(h x (by simp)).len;cases i with
  | zero=>
   obtain rfl:x=u:=by simpa using hi
   rw[List.flatMap_cons,Nat.zero_mul,List.drop_zero,List.take_append_of_le_length (by omega),List.take_of_length_le (by omega)]
  | succ i=>
   have:=ih (fun y hy=>h y (by simp[hy])) (i:=i) (u:=u) (by simpa using hi);rw[List.flatMap_cons,List.drop_append,List.drop_eq_nil_of_le (by omega),hx];have e:(i+1)*129-129=i*129:=by omega
   rw[e,List.nil_append,this]
section
variable {w w' : World} {b : Nat} {us : List UV} {tl : List Value}
theorem UH.below {B:Nat} (h:UH w b us tl) (hb:Below B w w') (hg:b<B):UH w' b us tl:=⟨h.1,h.2.below hb hg⟩
theorem UH.row (h:UH w b us tl) {i:Nat} {u:UV} (hk:us[i]?=some u):D9 w ⟨b,i*129,none⟩ 129=some (Cj u):=by
 have hi:i<us.length:=(List.getElem?_eq_some_iff.1 hk).1;have hl:=F7u h.1;rw[h.2.row (by rw[List.length_append,hl];omega)];congr 1;have aA:=uat h.1 hk;rw[List.drop_append_of_le_length (by omega),List.take_append_of_le_length (by rw[List.length_drop];omega)];exact aA
end
end
section
structure Gw where
 id:List UInt8
 s:Sv
 m:Sv
def Gw.cells (r:Gw):List Value:=c8 r.id++[r.s.v,r.m.v]
def Gw.V (r:Gw):Value:=.agg r.cells.toArray
def gwz:Gw:=⟨z8 32,⟨none,0,0⟩,⟨none,0,0⟩⟩
theorem C0s:(Tryz.prog.info? 64).map (·.size)=some 34:=by kernel_rfl
theorem B8k:((Tryz.prog.info? 64).bind (·.zero))=some gwz.V:=by kernel_rfl
theorem E7g:(Tryz.prog.info? 64).map (fun i=>(i.zero,i.size,i.bytes))=some (some gwz.V,34,80):=by kernel_rfl
theorem A5v:Tryz.prog.underlying 64=some (.struct (I2 Tryz.prog 64)):=by kernel_rfl
theorem C4f (w:World):(Z3 (I2 Tryz.prog 64)).run Tryz.prog w=.ok #[(0,32),(32,1),(33,1)] w:=by kernel_rfl
@[go_sem] theorem F6w (r : Gw) : Value.agg r.cells.toArray = r.V := rfl
@[go_sem] theorem E6a (t : TypeId) (w : World) (raw : Result Next) (r : Gw) : Jx t w raw r.V = .ok (.value (.pointer (some ⟨w.heap.size, 0, none⟩))) (w.alloc (.cells r.cells.toArray t)) := rfl
section
variable (w : World) (ρ : Operand → Value) (dst : Option Tmp) (ty : TypeId) (pos : String) (after : Array Edge) (guard : Option (Nat × Bool))
@[go_sem ↓ high] theorem F3q:RL' 64 34:=LL' A5v C0s
@[go_sem ↓ high] theorem E6y:RS' 64 34:=SS' C0s
@[go_sem ↓ high] theorem F1j:RA' 64 gwz.cells.toArray:=fun w ρ dst ty pos after guard=>I7 w ρ dst ty pos after guard 64 gwz.V B8k
@[go_sem ↓ high] theorem F6j:RB' 64:=BX' _
end
noncomputable def B9n (w:World) (raw:Result Next) (a:Value):Result Next:=match T5 a with
 | some i=>if i.length=32 then .ok (.value (Gw.V ⟨i,⟨none,0,0⟩,⟨none,0,0⟩⟩)) w else raw
 | _=>raw
@[go_sem] theorem F0d (w : World) (raw : Result Next) (i : List UInt8) (hi : i.length = 32) : B9n w raw (A8 i) = .ok (.value (Gw.V ⟨i, ⟨none, 0, 0⟩, ⟨none, 0, 0⟩⟩)) w := by
 unfold B9n;simp only[U5];simp[hi]
theorem D6c (i:List UInt8) (hi:i.length=32) (w:World):(Instr.build 64 #[(0,A8 i)]).run Tryz.prog w=.ok (Gw.V ⟨i,⟨none,0,0⟩,⟨none,0,0⟩⟩) w:=by
 have aA:gwz.V.cells.toList=c8 (z8 32)++[.slice none 0 0,.slice none 0 0]:=rfl;have h1:=I3 A5v B8k w (C4f w) #[(0,A8 i)] [(0,c8 i)] (by
  rw[aA];exact ⟨by simp[hi],rfl,by simp[hi],trivial⟩)
 refine h1.trans (congrArg (fun (cs:List Value)=>Result.ok (Value.agg cs.toArray) w) ?_);rw[aA];simp[Bg,N9,hi,List.take_append,List.drop_append,List.drop_eq_nil_of_le,List.take_of_length_le,Gw.cells,Sv.v,c8]
@[go_sem ↓ high] theorem E5s (w : World) (ρ : Operand → Value) (dst : Option Tmp) (ty : TypeId) (pos : String) (after : Array Edge) (guard : Option (Nat × Bool)) (x : Operand) :
 (execOp ρ { dst,op:=.build 64 #[(0,x)],type:=ty,pos,after,guard }).run Tryz.prog w=B9n w (F2 Tryz.prog ρ { dst,op:=.build 64 #[(0,x)],type:=ty,pos,after,guard } w) (ρ x):=by
 generalize h0:ρ x=a;unfold B9n;split
 ·rename_i i g0
  replace g0:=J4 g0;split
  ·rename_i h
   refine E9 w ρ dst ty pos after guard _ _ _ ?_;simp only[List.map_toArray,List.map_cons,List.map_nil,h0,g0];exact D6c i h w
  ·rfl
 ·rfl
@[go_sem ↓ high] theorem F7k (w : World) (ρ : Operand → Value) (dst : Option Tmp) (ty : TypeId) (pos : String) (after : Array Edge) (guard : Option (Nat × Bool)) (x : Operand) :
 (execOp ρ { dst,op:=.buildSlice 57 1 #[(0,x)],type:=ty,pos,after,guard }).run Tryz.prog w=Fu 34 64 w (F2 Tryz.prog ρ { dst,op:=.buildSlice 57 1 #[(0,x)],type:=ty,pos,after,guard } w) (ρ x):=
 Pj w ρ dst ty pos after guard 57 64 34 80 gwz.V x Tryz.underlying57 E7g (by simp[Gw.V,gwz,Gw.cells,Value.cells]) (by decide) (by decide)
noncomputable def B8v (w:World) (raw:Result Next) (a:Value):Result Next:=match T5 a with
 | some i=>if i.length=32 then .ok (.value (uvV ⟨i,0,z8 32,z8 64⟩)) w else raw
 | _=>raw
@[go_sem] theorem F0n (w : World) (raw : Result Next) (i : List UInt8) (hi : i.length = 32) : B8v w raw (A8 i) = .ok (.value (uvV ⟨i, 0, z8 32, z8 64⟩)) w := by
 unfold B8v;simp only[U5];simp[hi]
theorem D3q (i:List UInt8) (hi:i.length=32) (w:World):(Instr.build 48 #[(0,A8 i)]).run Tryz.prog w=.ok (uvV ⟨i,0,z8 32,z8 64⟩) w:=by
 have aA:(uvV (uvz 129)).cells.toList=c8 (z8 32)++(.int .i64 0::(c8 (z8 32)++c8 (z8 64))):=rfl;have h1:=I3 Vx A6s w (A4b w) #[(0,A8 i)] [(0,c8 i)] (by
  rw[aA];exact ⟨by simp[hi],rfl,by simp[hi],trivial⟩)
 refine h1.trans (congrArg (fun (cs:List Value)=>Result.ok (Value.agg cs.toArray) w) ?_);rw[aA];simp[Bg,N9,hi,List.take_append,List.drop_append,List.drop_eq_nil_of_le,List.take_of_length_le,Cj,c8]
@[go_sem ↓ high] theorem E3i (w : World) (ρ : Operand → Value) (dst : Option Tmp) (ty : TypeId) (pos : String) (after : Array Edge) (guard : Option (Nat × Bool)) (x : Operand) :
 (execOp ρ { dst,op:=.build 48 #[(0,x)],type:=ty,pos,after,guard }).run Tryz.prog w=B8v w (F2 Tryz.prog ρ { dst,op:=.build 48 #[(0,x)],type:=ty,pos,after,guard } w) (ρ x):=by
 generalize h0:ρ x=a;unfold B8v;split
 ·rename_i i g0
  replace g0:=J4 g0;split
  ·rename_i h
   refine E9 w ρ dst ty pos after guard _ _ _ ?_;simp only[List.map_toArray,List.map_cons,List.map_nil,h0,g0];exact D3q i h w
  ·rfl
 ·rfl
end
section
variable {H : Type} {enc : TypeId × Value → H} {P : Program} {w : World} {base : Nat} {spare : Nat → Bool} {held : Bool}
theorem open_i3 {r:Reach} {b0:Nat} {t e:TypeId} {v:Value} {d:DataW H} {ps:List MemPlace} (ht:P.underlying t=some (.array 3 e)) (he:P.underlying e=some (.int .i64)) (hc:P.cellsOf e=1) (hct:P.cellsOf t=3)
 (hval:Value.okWide P w r b0 t v) (hd:DataW.Trod enc P w base spare held t v d ps):∃a b c:Int,v=.agg #[.int .i64 a,.int .i64 b,.int .i64 c]:=by
 unfold Value.okWide at hval;rw[ht]at hval;obtain⟨cs,rfl,_,_⟩:=hval;obtain⟨aC,hf⟩:=hd;obtain⟨xs,m,_,_,hl,aE,aB⟩:=DataW.trod_array ht hf;rw[hct]at hl;simp only[Value.cells]at hl aB;have aA:∀i,i<3→∃b:Int,cs[i]?=some (.int .i64 b):=by
  intro i hi;have h1:=aB i hi;rw[hc,Nat.mul_one,List.getElem?_eq_getElem (by omega)]at h1;obtain⟨n,hn,_,hw⟩:=DataW.trod_int he h1;have h2:=congrArg (fun l=>l[0]?) hn;exact ⟨n,by simpa [List.getElem?_take,List.getElem?_drop] using h2⟩
 obtain⟨a,ha⟩:=aA 0 (by omega);obtain⟨b,hb⟩:=aA 1 (by omega);obtain⟨c,aD⟩:=aA 2 (by omega);refine ⟨a,b,c,?_⟩;congr 1;apply Array.ext_getElem?;intro i;match i with
 | 0=>rw[ha];rfl
 | 1=>rw[hb];rfl
 | 2=>rw[aD];rfl
 | i+3=>rw[Array.getElem?_eq_none (by simp at hl;omega),Array.getElem?_eq_none (by simp)]
end
end Go.Proofs.YtdfpoofbgjilgaaGreat
