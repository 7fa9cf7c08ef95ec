/- A part of the proof of ClientForks. -/
import Derived.Lib.Hide
import Derived.Outline
import Derived.Test.YtdfpoofbgjilgaaGreatVae
set_option linter.unusedVariables false
set_option linter.unusedSimpArgs false
set_option maxRecDepth 100000
set_option maxHeartbeats 40000000
namespace Go.Proofs.YtdfpoofbgjilgaaGreat
open Go Go.RowKit Sh
section
inductive Tr where
 | e:Tr
 | lf (k v:List UInt8):Tr
 | nd (l r:Tr):Tr
def Tr.root:Tr→List UInt8
 | .e=>z8 32
 | .lf k v=>Ih ([0]++k++v)
 | .nd l r=>Ih ([1]++l.root++r.root)
def Tr.len:Tr→Nat
 | .e=>0
 | .lf _ _=>1
 | .nd l r=>l.len+r.len
theorem Tr.root_length (t:Tr):t.root.length=32:=by cases t<;>simp[Tr.root,Cd]
def J1 (k v:List UInt8) (l r:Value) (h:List UInt8) (n:Int):List Value:=c8 k++(c8 v++(l::r::(c8 h++[.int .i64 n])))
def At (w:World) (B:Nat):Tr→Value→Prop
 | .e,p=>p=.pointer none
 | .lf k v,p=>∃g,p=.pointer (some ⟨g,0,none⟩)∧g<B∧k.length=32∧v.length=32∧Bk w g 253 (J1 k v (.pointer none) (.pointer none) (Tr.lf k v).root 1)
 | .nd l r,p=>∃g pl pr,p=.pointer (some ⟨g,0,none⟩)∧g<B∧Bk w g 253 (J1 (z8 32) (z8 32) pl pr (Tr.nd l r).root ((l.len:Int)+r.len))∧At w B l pl∧At w B r pr
theorem At.form {w:World} {B:Nat} {t:Tr} {p:Value} (h:At w B t p):∃x,p=.pointer x:=by
 cases t with
 | e=>exact ⟨_,h⟩
 | lf k v=>obtain⟨g,h,_⟩:=h;exact ⟨_,h⟩
 | nd l r=>obtain⟨g,_,_,h,_⟩:=h;exact ⟨_,h⟩
theorem At.below {w w':World} {B:Nat}:∀ {t:Tr} {p:Value},At w B t p→Below B w w'→At w' B t p
 | .e,_,h,_=>h
 | .lf _ _,_,⟨g,h1,h2,h3,h4,h5⟩,hb=>⟨g,h1,h2,h3,h4,h5.below hb h2⟩
 | .nd _ _,_,⟨g,pl,pr,h1,h2,h3,h4,h5⟩,hb=>⟨g,pl,pr,h1,h2,h3.below hb h2,At.below h4 hb,At.below h5 hb⟩
theorem Bk.apart {w:World} {g g':Nat} {t t':TypeId} {cs cs':List Value} (h:Bk w g t cs) (h':Bk w g' t' cs') (ht:t≠t'):g≠g':=fun e=>by
 subst e;unfold Bk at h h';rw[h]at h';injection h' with h';injection h' with _ h' _;exact ht h'
theorem At.set_ {w:World} {B:Nat} {g:Nat} {T:TypeId} {cs:List Value} (hg:Bk w g T cs) (hT:T≠253) (i:Nat) (u:Value):∀ {t:Tr} {p:Value},At w B t p→At (w.setCell ⟨g,i,none⟩ u) B t p
 | .e,_,h=>h
 | .lf _ _,_,⟨g',h1,h2,h3,h4,h5⟩=>⟨g',h1,h2,h3,h4,h5.far (Ne.symm (hg.apart h5 hT)) u⟩
 | .nd _ _,_,⟨g',pl,pr,h1,h2,h3,h4,h5⟩=>⟨g',pl,pr,h1,h2,h3.far (Ne.symm (hg.apart h3 hT)) u,At.set_ hg hT i u h4,At.set_ hg hT i u h5⟩
theorem At.put_ {w:World} {B:Nat} {g:Nat} {T:TypeId} {cs:List Value} (hg:Bk w g T cs) (hT:T≠253) (i:Nat) (us:List Value):∀ {t:Tr} {p:Value},At w B t p→At (C4 w ⟨g,i,none⟩ us) B t p
 | .e,_,h=>h
 | .lf _ _,_,⟨g',h1,h2,h3,h4,h5⟩=>⟨g',h1,h2,h3,h4,h5.putFar (Ne.symm (hg.apart h5 hT)) us⟩
 | .nd _ _,_,⟨g',pl,pr,h1,h2,h3,h4,h5⟩=>⟨g',pl,pr,h1,h2,h3.putFar (Ne.symm (hg.apart h3 hT)) us,At.put_ hg hT i us h4,At.put_ hg hT i us h5⟩
theorem At.more {w:World} {B B':Nat} (hB:B≤B'):∀ {t:Tr} {p:Value},At w B t p→At w B' t p
 | .e,_,h=>h
 | .lf _ _,_,⟨g,h1,h2,h3,h4,h5⟩=>⟨g,h1,by omega,h3,h4,h5⟩
 | .nd _ _,_,⟨g,pl,pr,h1,h2,h3,h4,h5⟩=>⟨g,pl,pr,h1,by omega,h3,At.more hB h4,At.more hB h5⟩
def Jx (t:TypeId) (w:World) (raw:Result Next):Value→Result Next
 | .agg cs=>.ok (.value (.pointer (some ⟨w.heap.size,0,none⟩))) (w.alloc (.cells cs t))
 | _=>raw
@[go_sem] theorem E6v (t : TypeId) (w : World) (raw : Result Next) (l : List UInt8) : Jx t w raw (A8 l) = .ok (.value (.pointer (some ⟨w.heap.size, 0, none⟩))) (w.alloc (.cells (c8 l).toArray t)) := rfl
theorem Yv {P:Program} (w:World) (ρ:Operand→Value) (dst:Option Tmp) (ty:TypeId) (pos:String) (after:Array Edge) (guard:Option (Nat×Bool)) (t:TypeId) (x:Operand) :
 (execOp ρ { dst,op:=.box t x,type:=ty,pos,after,guard }).run P w=Jx t w (F2 P ρ { dst,op:=.box t x,type:=ty,pos,after,guard } w) (ρ x):=by
 generalize hv:ρ x=v;unfold Jx;split
 ·simp only[execOp,hv];rfl
 ·rfl
@[go_sem ↓ high] theorem F3m (w : World) (ρ : Operand → Value) (dst : Option Tmp) (ty : TypeId) (pos : String) (after : Array Edge) (guard : Option (Nat × Bool)) (x : Operand) :
 (execOp ρ { dst,op:=.box 35 x,type:=ty,pos,after,guard }).run Tryz.prog w=Jx 35 w (F2 Tryz.prog ρ { dst,op:=.box 35 x,type:=ty,pos,after,guard } w) (ρ x):=Yv w ρ dst ty pos after guard 35 x
theorem Bk.rowMid {w:World} {g:Nat} {t:TypeId} {cs:List Value} (h:Bk w g t cs) (o n:Nat) (hl:o+n≤cs.length):D9 w ⟨g,o,none⟩ n=some ((cs.drop o).take n):=by
 rw[Z0];refine ⟨by simp;omega,fun j u hj=>?_⟩;rw[List.getElem?_take]at hj;split at hj
 ·rw[List.getElem?_drop]at hj;exact h.at_ hj
 ·cases hj
section
variable {w : World} {g : Nat} {t : TypeId} {k v hs : List UInt8} {l r : Value} {n : Int}
theorem A0z (h:Bk w g t (J1 k v l r hs n)) (hk:k.length=32):D9 w ⟨g,0,none⟩ 32=some (c8 k):=by
 have:=h.rowMid 0 32 (by simp[J1,hk]);rw[this];simp[J1,hk]
theorem B4d (h:Bk w g t (J1 k v l r hs n)) (hk:k.length=32) (hv:v.length=32):D9 w ⟨g,32,none⟩ 32=some (c8 v):=by
 have:=h.rowMid 32 32 (by simp[J1,hk,hv];omega);rw[this];simp[J1,hk,hv]
theorem A4t (h:Bk w g t (J1 k v l r hs n)) (hk:k.length=32) (hv:v.length=32) (hh:hs.length=32):D9 w ⟨g,66,none⟩ 32=some (c8 hs):=by
 have:=h.rowMid 66 32 (by simp[J1,hk,hv,hh]);rw[this];simp[J1,hk,hv,hh,List.drop_append,List.drop_eq_nil_of_le]
theorem Va (h:Bk w g t (J1 k v l r hs n)) (hk:k.length=32) (hv:v.length=32):w.cell? ⟨g,64,none⟩=some l:=h.at_ (by simp[J1,hk,hv,List.getElem?_append])
theorem Rh (h:Bk w g t (J1 k v l r hs n)) (hk:k.length=32) (hv:v.length=32):w.cell? ⟨g,65,none⟩=some r:=h.at_ (by simp[J1,hk,hv,List.getElem?_append])
theorem Hn (h:Bk w g t (J1 k v l r hs n)) (hk:k.length=32) (hv:v.length=32) (hh:hs.length=32):w.cell? ⟨g,98,none⟩=some (.int .i64 n):=h.at_ (by simp[J1,hk,hv,hh])
end
theorem J9.three (w:World) (t:TypeId) (x y z:Value) (l m n:List UInt8) (hx:By w 0 w.heap.size x l) (hy:By w 0 w.heap.size y m) (hz:By w 0 w.heap.size z n):J9 (w.alloc (.cells #[x,y,z] t)) (w.heap.size+1) (.slice (some ⟨w.heap.size,0,none⟩) 3 3) [l,m,n]:=
 J9.build w t [x,y,z] [l,m,n] rfl (by simp) fun i u k hu hk=>by
  match i,hu,hk with
  | 0,hu,hk=>simp at hu hk;subst hu;subst hk;exact hx
  | 1,hu,hk=>simp at hu hk;subst hu;subst hk;exact hy
  | 2,hu,hk=>simp at hu hk;subst hu;subst hk;exact hz
  | i+3,hu,hk=>simp at hu
theorem Bk.whole {w:World} {g:Nat} {t:TypeId} {l:List UInt8} (h:Bk w g t (c8 l)) (n:Nat) (hn:l.length=n) (hm:n≤9223372036854775807):By w 0 w.heap.size (.slice (some ⟨g,0,none⟩) n n) l:=by
 subst hn;exact By.mk_ (Nat.le_refl _) (by unfold maxLen;exact hm) (.inr ⟨g,0,rfl,Nat.zero_le _,h.lt,fun j u hj=>by rw[Nat.zero_add];exact h.at_ hj⟩)
def N9 (ct:List Value) (o:Nat) (vs:List Value):List Value:=ct.take o++vs++ct.drop (o+vs.length)
theorem Xk {ct vs:List Value} {o:Nat} (h:o+vs.length≤ct.length):(N9 ct o vs).length=ct.length:=by simp[N9];omega
theorem B1m (o:Nat):∀(vs:List Value) (i:Nat) (m:Array Value),o+i+vs.length≤m.size→((vs.zipIdx i).foldl (fun (m:Array Value) (p:Value×Nat)=>m.setIfInBounds (o+p.2) p.1) m).toList=N9 m.toList (o+i) vs
 | [],i,m,_=>by simp[N9]
 | v::vs,i,m,h=>by
  simp only[List.length_cons]at h;have hl:o+i<m.toList.length:=by simp;omega
  rw[List.zipIdx_cons,List.foldl_cons,B1m o vs (i+1) _ (by simp;omega)];simp only[N9,Array.toList_setIfInBounds];rw[show o+(i+1)=o+i+1 by omega,Mp _ _ _ hl,List.drop_set_of_lt (by omega)];simp only[List.append_assoc,List.cons_append,List.nil_append,List.length_cons];rw[show o+i+1+vs.length=o+i+(vs.length+1) by omega]
def Bg (ct:List Value):List (Nat×List Value)→List Value
 | []=>ct
 | (o,vs)::r=>Bg (N9 ct o vs) r
def E2h (place:Nat→Option (Nat×Nat)) (n:Nat):List (Nat×Value)→List (Nat×List Value)→Prop
 | [],[]=>True
 | (i,v)::r,(o,vs)::q=>place i=some (o,vs.length)∧v.cells=vs.toArray∧o+vs.length≤n∧E2h place n r q
 | _,_=>False
theorem Pw (place:Nat→Option (Nat×Nat)):∀(parts:List (Nat×Value)) (q:List (Nat×List Value)) (ct:List Value),E2h place ct.length parts q→Instr.fill place ct.toArray parts=some (Bg ct q).toArray
 | [],[],ct,_=>rfl
 | (i,v)::r,(o,vs)::q,ct,h=>by
  obtain⟨h1,h2,h3,h4⟩:=h;unfold Instr.fill;simp only[h1,h2,List.size_toArray];rw[if_neg (by simp;omega)];have e:(vs.toArray.zipIdx.foldl (fun (m:Array Value) (p:Value×Nat)=>m.setIfInBounds (o+p.2) p.1) ct.toArray)=(N9 ct o vs).toArray:=by
   apply Array.ext';have:=B1m o vs 0 ct.toArray (by simpa using h3);simpa using this
  rw[e];exact Pw place r q _ (by rw[Xk h3];exact h4)
 | [],_::_,_,h=>h.elim
 | _::_,[],_,h=>h.elim
def Z3 (fields:Array Field):Sem (Array (Nat×Nat)):=fields.mapM fun f=>do pure (f.offset,←sizeOf f.type)
def I2 (P:Program) (t:TypeId):Array Field:=match P.underlying t with | some (.struct fs)=>fs | _=>#[]
theorem I3 {P:Program} {t:TypeId} {fields:Array Field} {zero:Value} {places:Array (Nat×Nat)} (hu:P.underlying t=some (.struct fields)) (hz:(P.info? t).bind (·.zero)=some zero)
 (w:World) (hp:(Z3 fields).run P w=.ok places w) (parts:Array (Nat×Value)) (q:List (Nat×List Value))
 (hf:E2h (places[·]?) zero.cells.toList.length parts.toList q):(Instr.build t parts).run P w=.ok (.agg (Bg zero.cells.toList q).toArray) w:=by
 have h0:(zeroValue t).run P w=.ok zero w:=by
  cases hq:P.info? t with
  | none=>simp[hq]at hz
  | some i=>
   have aA:i.zero=some zero:=by simpa [hq] using hz
   simp[zeroValue,typeInfo,hq,aA]
 have h1:=Pw (places[·]?) parts.toList q zero.cells.toList hf;unfold Instr.build;simp only[Sem.run_bind,h0,Result.andThen_ok,run_underlying hu];unfold Z3 at hp;rw[hp];simp only[Result.andThen_ok];simp only[Array.toArray_toList]at h1;rw[h1];rfl
def A3z (k v:List UInt8) (l r:Option Addr) (h:List UInt8) (n:Int):Value:=.agg (J1 k v (.pointer l) (.pointer r) h n).toArray
@[go_sem] theorem D9v (t : TypeId) (w : World) (raw : Result Next) (k v : List UInt8) (l r : Option Addr) (h : List UInt8) (n : Int) : Jx t w raw (A3z k v l r h n) = .ok (.value (.pointer (some ⟨w.heap.size, 0, none⟩))) (w.alloc (.cells (J1 k v (.pointer l) (.pointer r) h n).toArray t)) := rfl
theorem A5l:(Tryz.prog.info? 253).bind (·.zero)=some (A3z (z8 32) (z8 32) none none (z8 32) 0):=by kernel_rfl
theorem Wm:Tryz.prog.underlying 253=some (.struct (I2 Tryz.prog 253)):=by kernel_rfl
theorem Xf (w:World):(Z3 (I2 Tryz.prog 253)).run Tryz.prog w=.ok #[(0,32),(32,32),(64,1),(65,1),(66,32),(98,1)] w:=by kernel_rfl
noncomputable def Vn (w:World) (raw:Result Next) (k v l r h n:Value):Result Next:=
 match T5 k,T5 v,l,r,T5 h,n with
 | some k,some v,.pointer l,.pointer r,some h,.int .i64 n=>if k.length=32∧v.length=32∧h.length=32 then .ok (.value (A3z k v l r h n)) w else raw
 | _,_,_,_,_,_=>raw
@[go_sem] theorem E4s (w : World) (raw : Result Next) (k v : List UInt8) (l r : Option Addr) (h : List UInt8) (n : Int) (hk : k.length = 32) (hv : v.length = 32) (hh : h.length = 32) : Vn w raw (A8 k) (A8 v) (.pointer l) (.pointer r) (A8 h) (.int .i64 n) = .ok (.value (A3z k v l r h n)) w := by
 unfold Vn;rw[U5,U5,U5];simp[hk,hv,hh]
theorem A1k (k v:List UInt8) (l r:Option Addr) (h:List UInt8) (n:Int) (hk:k.length=32) (hv:v.length=32) (hh:h.length=32) (w:World) (parts:Array (Nat×Value)) (hp:parts.toList=[(0,A8 k),(1,A8 v),(4,A8 h),(5,.int .i64 n)]∧l=none∧r=none∨parts.toList=[(2,.pointer l),(3,.pointer r),(4,A8 h),(5,.int .i64 n)]∧k=z8 32∧v=z8 32) :
 (Instr.build 253 parts).run Tryz.prog w=.ok (A3z k v l r h n) w:=by
 have hz:(A3z (z8 32) (z8 32) none none (z8 32) 0).cells.toList=J1 (z8 32) (z8 32) (.pointer none) (.pointer none) (z8 32) 0:=rfl;have hl:(J1 (z8 32) (z8 32) (.pointer none) (.pointer none) (z8 32) 0).length=99:=by simp[J1]
 rcases hp with ⟨hp,rfl,rfl⟩ | ⟨hp,rfl,rfl⟩
 ·have h1:=I3 Wm A5l w (Xf w) parts [(0,c8 k),(32,c8 v),(66,c8 h),(98,[.int .i64 n])] (by
   rw[hz,hl,hp];exact ⟨by simp[hk],rfl,by simp[hk],by simp[hv],rfl,by simp[hv],by simp[hh],rfl,by simp[hh],rfl,rfl,by simp,trivial⟩)
  refine h1.trans (congrArg (fun (cs:List Value)=>Result.ok (Value.agg cs.toArray) w) ?_);rw[hz];simp[Bg,N9,J1,hk,hv,hh,List.take_append,List.drop_append,List.drop_eq_nil_of_le,List.take_of_length_le]
 ·have h1:=I3 Wm A5l w (Xf w) parts [(64,[.pointer l]),(65,[.pointer r]),(66,c8 h),(98,[.int .i64 n])] (by
   rw[hz,hl,hp];exact ⟨rfl,rfl,by simp,rfl,rfl,by simp,by simp[hh],rfl,by simp[hh],rfl,rfl,by simp,trivial⟩)
  refine h1.trans (congrArg (fun (cs:List Value)=>Result.ok (Value.agg cs.toArray) w) ?_);rw[hz];simp[Bg,N9,J1,hh,List.take_append,List.drop_append,List.drop_eq_nil_of_le,List.take_of_length_le]
section
variable (w : World) (ρ : Operand → Value) (dst : Option Tmp) (ty : TypeId) (pos : String) (after : Array Edge) (guard : Option (Nat × Bool))
theorem E9 (t:TypeId) (parts:Array (Nat×Operand)) {P:Program} (v:Value) (h:(Instr.build t (parts.map fun (i,x)=>(i,ρ x))).run P w=.ok v w) :
 (execOp ρ { dst,op:=.build t parts,type:=ty,pos,after,guard }).run P w=.ok (.value v) w:=by
 unfold execOp;simp only[Sem.run_bind];rw[h];rfl
@[go_sem ↓ high] theorem C4y (x y z c : Operand) :
 (execOp ρ { dst,op:=.build 253 #[(0,x),(1,y),(4,z),(5,c)],type:=ty,pos,after,guard }).run Tryz.prog w=Vn w (F2 Tryz.prog ρ { dst,op:=.build 253 #[(0,x),(1,y),(4,z),(5,c)],type:=ty,pos,after,guard } w) (ρ x) (ρ y) (.pointer none) (.pointer none) (ρ z) (ρ c):=by
 generalize hx:ρ x=a;generalize hy:ρ y=b;generalize hz:ρ z=d;generalize hc:ρ c=e;unfold Vn;split
 ·rename_i k v l r h n h1 h2 h3 h4 h5
  split
  ·rename_i hl
   cases J4 h1;cases J4 h2;cases J4 h5;injection h3 with h3;injection h4 with h4;refine E9 w ρ dst ty pos after guard _ _ _ (A1k k v l r h n hl.1 hl.2.1 hl.2.2 w _ (.inl ⟨?_,h3.symm,h4.symm⟩));simp[hx,hy,hz,hc]
  ·rfl
 ·rfl
@[go_sem ↓ high] theorem C3z (x y z c : Operand) :
 (execOp ρ { dst,op:=.build 253 #[(2,x),(3,y),(4,z),(5,c)],type:=ty,pos,after,guard }).run Tryz.prog w=Vn w (F2 Tryz.prog ρ { dst,op:=.build 253 #[(2,x),(3,y),(4,z),(5,c)],type:=ty,pos,after,guard } w) (A8 (z8 32)) (A8 (z8 32)) (ρ x) (ρ y) (ρ z) (ρ c):=by
 generalize hx:ρ x=a;generalize hy:ρ y=b;generalize hz:ρ z=d;generalize hc:ρ c=e;unfold Vn;split
 ·rename_i k v l r h n h1 h2 h5
  split
  ·rename_i hl
   rw[U5]at h1 h2;cases J4 h5;injection h1 with h1;injection h2 with h2;refine E9 w ρ dst ty pos after guard _ _ _ (A1k k v l r h n hl.1 hl.2.1 hl.2.2 w _ (.inr ⟨?_,h1.symm,h2.symm⟩));simp[hx,hy,hz,hc]
  ·rfl
 ·rfl
@[go_sem ↓ high] theorem D1d :
 (execOp ρ { dst,op:=.build 35 #[],type:=ty,pos,after,guard }).run Tryz.prog w=.ok (.value (A8 (z8 32))) w:=
 E9 w ρ dst ty pos after guard _ _ (A8 (z8 32)) (by kernel_rfl)
@[go_sem ↓ high] theorem F2o (x : Operand) :
 (execOp ρ { dst,op:=.box 253 x,type:=ty,pos,after,guard }).run Tryz.prog w=Jx 253 w (F2 Tryz.prog ρ { dst,op:=.box 253 x,type:=ty,pos,after,guard } w) (ρ x):=Yv w ρ dst ty pos after guard 253 x
end
end
theorem C1 {B:Nat} {a b c:World} (h:Below B a b) (h2:Below b.heap.size b c) (hB:B≤b.heap.size):Below B a c:=h.trans (h2.mono hB)
theorem B1c (k v:List UInt8) (hk:k.length=32) (hv:v.length=32) (w:World) :
 Calls Tryz.prog 157 #[A8 k,A8 v] w fun e w'=>∃p,e=.returned p∧At w' w'.heap.size (.lf k v) p∧Below w.heap.size w w':=by
 go_enter Tryz.func157,Tryz.ntmps157;go_wp2;obtain⟨w0,aB⟩:∃x,x=(w.alloc (.cells (c8 k).toArray 35)).alloc (.cells (c8 v).toArray 35):=⟨_,rfl⟩;rw[←aB];have B0:Below w.heap.size w w0:=by rw[aB];exact ((Below.refl _ _).alloc (Nat.le_refl _) _).alloc (by simp) _
 have K0:Bk w0 w.heap.size 35 (c8 k):=by rw[aB];exact (Bk.new _ _ _).alloc _
 have V0:Bk w0 (w.heap.size+1) 35 (c8 v):=by rw[aB];have:=Bk.new (w.alloc (.cells (c8 k).toArray 35)) 35 (c8 v);simpa using this
 have z0:=V0.lt;clear aB;refine Ot (A:=?A) (fun W=>Below w0.heap.size w0 W) [0,1,3,4] [2,5,6,7,8,9] (by kernel_rfl) (by kernel_rfl) (by kernel_rfl) (by kernel_rfl) rfl rfl (by kernel_rfl) (by kernel_rfl) ?hS (fun W hW=>?h) (fun hS=>?t);case hS=>exact (Below.refl _ _).drew
 case h=>
  have r1:=(K0.below hW (by omega)).rows;have r2:=(V0.below hW (by omega)).rows;rw[C6,hk]at r1;rw[C6,hv]at r2;simp only[pick,List.getElem?_cons_zero,List.getElem?_cons_succ];repeat (go_big_quiet_step (fail))
  refine wpQuiet_nil ?_;rfl
 case t=>
  simp only[pick,List.getElem?_cons_zero,List.getElem?_cons_succ];refine H8 (by rfl) (fun Q' hQ'=>?_);go_wp2;obtain⟨w1,aC⟩:∃x,x=(w0.alloc (Obj.cells #[Value.int IntKind.u8 0] 5)).drew:=⟨_,rfl⟩;rw[←aC];have B1:Below w0.heap.size w0 w1:=by rw[aC];exact ((Below.refl _ _).alloc (Nat.le_refl _) _).drew
  have y0:By w1 0 w1.heap.size (.slice (some ⟨w0.heap.size,0,none⟩) 1 1) [0]:=by rw[aC];exact (By.build w0 5 (0,0) [0] (by simp)).more (by simp)
  refine hQ' _ _ B1 ?_;clear aC hQ' hS;refine H8 (by rfl) (fun Q' hQ'=>?_);go_wp2;obtain⟨w2,aD⟩:∃x,x=w1.alloc (Obj.cells #[.slice (some ⟨w0.heap.size,0,none⟩) 1 1,.slice (some ⟨w.heap.size,0,none⟩) 32 32,.slice (some ⟨w.heap.size+1,0,none⟩) 32 32] 29):=⟨_,rfl⟩;rw[←aD];have B2:Below w0.heap.size w0 w2:=by rw[aD];exact B1.alloc B1.size _
  have yk:By w1 0 w1.heap.size (.slice (some ⟨w.heap.size,0,none⟩) 32 32) k:=(K0.below B1 (by omega)).whole 32 hk (by omega);have yv:By w1 0 w1.heap.size (.slice (some ⟨w.heap.size+1,0,none⟩) 32 32) v:=(V0.below B1 (by omega)).whole 32 hv (by omega);have p2:J9 w2 w2.heap.size (.slice (some ⟨w1.heap.size,0,none⟩) 3 3) [[0],k,v]:=by rw[aD];have:=J9.three w1 29 _ _ _ _ _ _ y0 yk yv;simpa using this
  refine hQ' _ _ B2 ?_;clear aD hQ' y0 yk yv;refine H8 (by rfl) (fun Q' hQ'=>?_);go_wp2_with fail;refine (Hf _ [[0],k,v] w2 p2 (by simp[hk,hv])).mono ?_;rintro e w3 ⟨rfl,aE⟩;have B3:=C1 B2 aE B2.size;have aA:[[0],k,v].flatten=[0]++k++v:=by simp
  rw[aA];have hl:=Cd ([0]++k++v);generalize hr:Ih ([0]++k++v)=r at *;have Hr:=Lib.hid hr;clear hr aE p2 aA;go_wp2_with fail;refine hQ' _ _ B3 ?_;clear hQ';refine H8 (by rfl) (fun Q' hQ'=>?_);go_wp2_with fail;refine hQ' _ _ B3 ?_;clear hQ';refine H8 (by rfl) (fun Q' hQ'=>?_);go_wp2_with fail;refine hQ' _ _ (B3.alloc B3.size _) ?_;clear hQ';refine H8 (by rfl) (fun Q' hQ'=>?_);go_wp2_with fail;refine hQ' _ _ (B3.alloc B3.size _) ?_;clear hQ';refine Gy ?_;go_wp2_with fail;go_ret;refine ⟨_,rfl,⟨_,rfl,by simp,hk,hv,?_⟩,(C1 B0 B3 B0.size).alloc (C1 B0 B3 B0.size).size _⟩;rw[show (Tr.lf k v).root=r from Hr.out];exact Bk.new _ _ _
theorem A1m (t:Tr) (p:Value) (w:World) (h:At w w.heap.size t p) :
 Calls Tryz.prog 105 #[p] w fun e w'=>e=.returned (A8 t.root)∧Below w.heap.size w w':=by
 cases t with
 | e=>
  obtain rfl:p=.pointer none:=h;go_enter Tryz.func105,Tryz.ntmps105;go_wp2;exact bodyPost_ret (C7 rfl _ _ _ _ _ _ rfl ((Bk.new w _ _).puts (vs:=c8 (z8 32)) (by simp)) Tryz.underlying35 rfl (by simp[I8])) rfl ⟨rfl,C0 ((Below.refl _ _).alloc (Nat.le_refl _) _) (Nat.le_refl _) _⟩
 | lf k v=>
  obtain⟨g,rfl,hg,hk,hv,hb⟩:=h;have hl:=Tr.root_length (Tr.lf k v);generalize (Tr.lf k v).root=r at *;have hc:=A4t hb hk hv hl;clear hb;go_enter Tryz.func105,Tryz.ntmps105;go_wp2;exact bodyPost_ret (C7 rfl _ _ _ _ _ _ rfl ((Bk.new w _ _).puts (vs:=c8 r) (by simp[hl])) Tryz.underlying35 rfl (by simp[I8,hl])) rfl ⟨rfl,C0 ((Below.refl _ _).alloc (Nat.le_refl _) _) (Nat.le_refl _) _⟩
 | nd l r=>
  obtain⟨g,pl,pr,rfl,hg,hb,_,_⟩:=h;have hl:=Tr.root_length (Tr.nd l r);generalize (Tr.nd l r).root=r at *;have hc:=A4t hb (I1 32) (I1 32) hl;clear hb;go_enter Tryz.func105,Tryz.ntmps105;go_wp2;exact bodyPost_ret (C7 rfl _ _ _ _ _ _ rfl ((Bk.new w _ _).puts (vs:=c8 r) (by simp[hl])) Tryz.underlying35 rfl (by simp[I8,hl])) rfl ⟨rfl,C0 ((Below.refl _ _).alloc (Nat.le_refl _) _) (Nat.le_refl _) _⟩
theorem A8s (t:Tr) (p:Value) (w:World) (B:Nat) (h:At w B t p) :
 Calls Tryz.prog 189 #[p] w fun e w'=>e=.returned (.int .i64 (t.len:Int))∧w'=w:=by
 cases t with
 | e=>
  obtain rfl:p=.pointer none:=h;go_enter Tryz.func189,Tryz.ntmps189;go_wp2;go_ret;exact ⟨rfl,rfl⟩
 | lf k v=>
  obtain⟨g,rfl,_,hk,hv,hb⟩:=h;have hc:=Hn hb hk hv (Tr.root_length _);clear hb;go_enter Tryz.func189,Tryz.ntmps189;go_wp2;go_ret;exact ⟨rfl,rfl⟩
 | nd l r=>
  obtain⟨g,pl,pr,rfl,_,hb,_,_⟩:=h;have hc:=Hn hb (I1 32) (I1 32) (Tr.root_length _);clear hb;go_enter Tryz.func189,Tryz.ntmps189;go_wp2;go_ret;exact ⟨by simp[Tr.len],rfl⟩
theorem Gm (l r:Tr) (pl pr:Value) (hn:l.len+r.len≤1099511627776) (w:World) (hl:At w w.heap.size l pl) (hr:At w w.heap.size r pr) :
 Calls Tryz.prog 159 #[pl,pr] w fun e w'=>∃p,e=.returned p∧At w' w'.heap.size (.nd l r) p∧Below w.heap.size w w':=by
 obtain⟨al,rfl⟩:=hl.form;obtain⟨ar,rfl⟩:=hr.form;have aF:=Tr.root_length l;have aG:=Tr.root_length r;have aA:(Tr.nd l r).root=Ih ([1]++l.root++r.root):=rfl;have aB:=Lib.hid aA;clear aA;go_enter Tryz.func159,Tryz.ntmps159;go_wp2_with fail;refine (A1m l _ w hl).mono ?_;rintro e wa ⟨rfl,ba⟩;have aK:=(hr.below ba).more ba.size;go_wp2_with fail;refine (A1m r _ wa aK).mono ?_;rintro e wb ⟨rfl,bb⟩;have Bb:=C1 ba bb ba.size;clear ba bb aK;generalize l.root=rl at *;generalize r.root=rr at *;go_wp2_with fail;obtain⟨w0,aC⟩:∃x,x=C4 (C4 ((wb.alloc (Obj.cells (c8 (z8 32)).toArray 35)).alloc (Obj.cells (c8 (z8 32)).toArray 35)) ⟨wb.heap.size,0,none⟩ (c8 rl)) ⟨wb.heap.size+1,0,none⟩ (c8 rr):=⟨_,rfl⟩;rw[←aC];have B0:Below w.heap.size w w0:=by rw[aC];have:=Bb.size;exact C0 (C0 ((Bb.alloc Bb.size _).alloc (by simp;omega) _) (by exact Bb.size) _) (by simp;omega) _
 have K0:Bk w0 wb.heap.size 35 (c8 rl):=by rw[aC];exact (((Bk.new wb _ _).alloc _).puts (by simp[aF])).putFar (by simp) _
 have V0:Bk w0 (wb.heap.size+1) 35 (c8 rr):=by rw[aC];have:=(Bk.new (wb.alloc (Obj.cells (c8 (z8 32)).toArray 35)) 35 (c8 (z8 32))).putFar (p:=⟨wb.heap.size,0,none⟩) (by simp) (c8 rl);exact Bk.puts (by simpa using this) (by simp[aG])
 have z0:=V0.lt;generalize wb.heap.size=gb at *;clear aC Bb;have aH:=(hl.below B0).more B0.size;have aI:=(hr.below B0).more B0.size;refine Ot (A:=?A) (fun W=>Below w0.heap.size w0 W) [0,1,3,4,7,9] [2,5,6,8,10,11,12,13,14] (by kernel_rfl) (by kernel_rfl) (by kernel_rfl) (by kernel_rfl) rfl rfl (by kernel_rfl) (by kernel_rfl) ?hS (fun W hW=>?h) (fun hS=>?t);case hS=>exact (Below.refl _ _).drew
 case h=>
  simp only[pick,List.getElem?_cons_zero,List.getElem?_cons_succ];repeat (go_big_quiet_step (fail))
  refine wpQuiet_nil ?_;rfl
 case t=>
  simp only[pick,List.getElem?_cons_zero,List.getElem?_cons_succ];refine H8 (by rfl) (fun Q' hQ'=>?_);go_wp2;obtain⟨w1,aD⟩:∃x,x=(w0.alloc (Obj.cells #[Value.int IntKind.u8 1] 5)).drew:=⟨_,rfl⟩;rw[←aD];have B1:Below w0.heap.size w0 w1:=by rw[aD];exact ((Below.refl _ _).alloc (Nat.le_refl _) _).drew
  have y0:By w1 0 w1.heap.size (.slice (some ⟨w0.heap.size,0,none⟩) 1 1) [1]:=by rw[aD];exact (By.build w0 5 (0,0) [1] (by simp)).more (by simp)
  refine hQ' _ _ B1 ?_;clear aD hQ' hS;refine H8 (by rfl) (fun Q' hQ'=>?_);go_wp2;obtain⟨w2,aE⟩:∃x,x=w1.alloc (Obj.cells #[.slice (some ⟨w0.heap.size,0,none⟩) 1 1,.slice (some ⟨gb,0,none⟩) 32 32,.slice (some ⟨gb+1,0,none⟩) 32 32] 29):=⟨_,rfl⟩;rw[←aE];have B2:Below w0.heap.size w0 w2:=by rw[aE];exact B1.alloc B1.size _
  have yk:By w1 0 w1.heap.size (.slice (some ⟨gb,0,none⟩) 32 32) rl:=(K0.below B1 (by omega)).whole 32 aF (by omega);have yv:By w1 0 w1.heap.size (.slice (some ⟨gb+1,0,none⟩) 32 32) rr:=(V0.below B1 (by omega)).whole 32 aG (by omega);have p2:J9 w2 w2.heap.size (.slice (some ⟨w1.heap.size,0,none⟩) 3 3) [[1],rl,rr]:=by rw[aE];have:=J9.three w1 29 _ _ _ _ _ _ y0 yk yv;simpa using this
  refine hQ' _ _ B2 ?_;clear aE hQ' y0 yk yv;refine H8 (by rfl) (fun Q' hQ'=>?_);go_wp2_with fail;refine (Hf _ [[1],rl,rr] w2 p2 (by simp[aF,aG])).mono ?_;rintro e w3 ⟨rfl,aL⟩;have B3:=C1 B2 aL B2.size;have aA:[[1],rl,rr].flatten=[1]++rl++rr:=by simp
  rw[aA];have aJ:=Cd ([1]++rl++rr);rw[←aB.out]at aJ ⊢;generalize hrt:(Tr.nd l r).root=rt at *;have Hr:=Lib.hid hrt;clear hrt aL p2 aA aB;go_wp2_with fail;refine hQ' _ _ B3 ?_;clear hQ';have aM:=(aH.below B3).more B3.size;have aN:=(aI.below B3).more B3.size;refine H8 (by rfl) (fun Q' hQ'=>?_);go_wp2_with fail;refine (A8s l _ w3 _ aM).mono ?_;rintro e w4 ⟨rfl,h4⟩;rw[h4];clear h4 w4;go_wp2_with fail;refine hQ' _ _ B3 ?_;clear hQ';refine H8 (by rfl) (fun Q' hQ'=>?_);go_wp2_with fail;refine (A8s r _ w3 _ aN).mono ?_;rintro e w4 ⟨rfl,h4⟩;rw[h4];clear h4 w4;go_wp2_with fail;refine hQ' _ _ B3 ?_;clear hQ';refine H8 (by rfl) (fun Q' hQ'=>?_);go_wp2_with fail;refine hQ' _ _ B3 ?_;clear hQ';refine H8 (by rfl) (fun Q' hQ'=>?_);go_wp2_with fail;refine hQ' _ _ B3 ?_;clear hQ';refine H8 (by rfl) (fun Q' hQ'=>?_);go_wp2_with fail;refine hQ' _ _ (B3.alloc B3.size _) ?_;clear hQ';refine H8 (by rfl) (fun Q' hQ'=>?_);go_wp2_with fail;refine hQ' _ _ (B3.alloc B3.size _) ?_;clear hQ';refine Gy ?_;go_wp2_with fail;go_ret;have Bl:=(Below.refl w3.heap.size w3).alloc (Nat.le_refl _) (Obj.cells (J1 (z8 32) (z8 32) (.pointer al) (.pointer ar) rt ((l.len:Int)+r.len)).toArray 253);refine ⟨_,rfl,⟨_,_,_,rfl,by simp,?_,(aM.below Bl).more (by simp),(aN.below Bl).more (by simp)⟩,(C1 B0 B3 B0.size).alloc (C1 B0 B3 B0.size).size _⟩;rw[Hr.out];exact Bk.new _ _ _
def I6 (k:List UInt8) (n:Nat):Bool:=(g8 k (n / 8) >>> UInt8.ofNat (7-n % 8)) &&& 1==1
theorem C0m (y:UInt8):(bits .and .u8 (n8 y) 1==1)=(y &&& 1==1):=by
 have h:bits .and .u8 (n8 y) 1=n8 (y &&& 1):=by have h:=u8_and_nat y.toNat 1 (lt8 y) (by decide);unfold n8;rw[UInt8.toNat_and];exact h
 rw[h];exact Vc (y &&& 1) 1
theorem X5 (k:List UInt8) (n:Nat) (hk:k.length=32) (hn:n<256) (w:World) :
 Calls Tryz.prog 158 #[A8 k,.int .i64 (n:Int)] w fun e w'=>e=.returned (.bool (I6 k n))∧Below w.heap.size w w':=by
 have hc:(w.alloc (.cells (c8 k).toArray 35)).cell? ⟨w.heap.size,n / 8,none⟩=some (.int .u8 (n8 (g8 k (n / 8)))):=(Bk.new w _ _).at_ (Jo (by omega));have hb:Hid (I6 k n=((g8 k (n / 8) >>> UInt8.ofNat (7-n % 8)) &&& 1==1)):=Lib.hid rfl;generalize g8 k (n / 8)=x at *;have h1:(n:Int) / 8=((n / 8:Nat):Int):=by omega
 have hq:n / 8<32:=by omega
 have h2:(n:Int) % 8=((n % 8:Nat):Int):=by omega
 have hr:n % 8<8:=by omega
 generalize hnq:n / 8=q at *;generalize hnr:n % 8=r at *;clear hnq hnr;have aA:r=0∨r=1∨r=2∨r=3∨r=4∨r=5∨r=6∨r=7:=by omega
 rcases aA with rfl | rfl | rfl | rfl | rfl | rfl | rfl | rfl;all_goals
  go_enter Tryz.func158,Tryz.ntmps158;go_wp2;go_ret;refine ⟨?_,(Below.refl _ _).alloc (Nat.le_refl _) _⟩;rw[hb.out];exact congrArg (fun b=>Ending.returned (.bool b)) (C0m _)
section
def Fk (k v:List UInt8):Nat→Nat→Tr→Tr
 | _,_,.e=>.lf k v
 | 0,_,.lf k' v'=>if k'=k then .lf k v else .e
 | f+1,d,.lf k' v'=>if k'=k then .lf k v else
  if I6 k d then .nd (if I6 k' d then .e else .lf k' v') (Fk k v f (d+1) (if I6 k' d then .lf k' v' else .e))
  else .nd (Fk k v f (d+1) (if I6 k' d then .e else .lf k' v')) (if I6 k' d then .lf k' v' else .e)
 | 0,_,.nd _ _=>.e
 | f+1,d,.nd l r=>if I6 k d then .nd l (Fk k v f (d+1) r) else .nd (Fk k v f (d+1) l) r
def Xp (p:Nat→Bool) (d:Nat) (b:Bool):Nat→Bool:=fun i=>if i=d then b else p i
def Ok:Nat→(Nat→Bool)→Tr→Prop
 | _,_,.e=>True
 | d,p,.lf k v=>k.length=32∧v.length=32∧∀i,i<d→I6 k i=p i
 | d,p,.nd l r=>d<256∧2≤l.len+r.len∧Ok (d+1) (Xp p d false) l∧Ok (d+1) (Xp p d true) r
theorem D4d (x:UInt8):x &&& 1=if x.toNat % 2=1 then 1 else 0:=by
 apply UInt8.toNat_inj.1;rw[UInt8.toNat_and];show x.toNat &&& 1=_;rw[Nat.and_one_is_mod];split
 ·rename_i h;rw[h];rfl
 ·have:x.toNat % 2=0:=by omega
  rw[this];rfl
theorem Jj (k:List UInt8) (n:Nat):I6 k n=(g8 k (n / 8)).toNat.testBit (7-n % 8):=by
 unfold I6;rw[D4d,UInt8.toNat_shiftRight,UInt8.toNat_ofNat'];have e:(7-n % 8) % 2 ^ 8 % 8=7-n % 8:=by omega
 rw[e,Nat.testBit];simp only[Nat.and_one_is_mod,Nat.one_and_eq_mod_two];by_cases h:(g8 k (n / 8)).toNat >>> (7-n % 8) % 2=1
 ·rw[if_pos h,h];rfl
 ·have h0:(g8 k (n / 8)).toNat >>> (7-n % 8) % 2=0:=by omega
  rw[if_neg h,h0];rfl
theorem Ue {a b:List UInt8} (ha:a.length=32) (hb:b.length=32) (h:∀i,i<256→I6 a i=I6 b i):a=b:=by
 apply List.ext_getElem (by omega);intro i h1 h2;apply UInt8.toNat_inj.1;apply Nat.eq_of_testBit_eq;intro j;by_cases hj:j<8
 ·have:=h (8*i+(7-j)) (by omega);rw[Jj,Jj,show (8*i+(7-j)) / 8=i by omega,show 7-(8*i+(7-j)) % 8=j by omega]at this;unfold g8 at this;simpa [h1,h2] using this
 ·have p:2 ^ 8≤2 ^ j:=Nat.pow_le_pow_right (by omega) (by omega);rw[Nat.testBit_lt_two_pow (Nat.lt_of_lt_of_le (UInt8.toNat_lt _) p),Nat.testBit_lt_two_pow (Nat.lt_of_lt_of_le (UInt8.toNat_lt _) p)]
abbrev Pr := List UInt8 × List UInt8
def Tr.pairs:Tr→List Pr
 | .e=>[]
 | .lf k v=>[(k,v)]
 | .nd l r=>l.pairs++r.pairs
theorem Tr.len_pairs:∀t:Tr,t.len=t.pairs.length
 | .e=>rfl
 | .lf _ _=>rfl
 | .nd l r=>by simp only[Tr.len,Tr.pairs,List.length_append,Tr.len_pairs l,Tr.len_pairs r]
theorem B4w (p:Nat→Bool) (d:Nat) (b:Bool):Xp p d b d=b:=by simp[Xp]
theorem Zd (p:Nat→Bool) {d i:Nat} (b:Bool) (h:i<d):Xp p d b i=p i:=by simp[Xp,Nat.ne_of_lt h]
theorem D8 {k:List UInt8} {p:Nat→Bool} {d:Nat} (h:∀i,i<d→I6 k i=p i) {b:Bool} (hb:I6 k d=b):∀i,i<d+1→I6 k i=Xp p d b i:=fun i hi=>by
 by_cases e:i=d
 ·subst e;rw[B4w,hb]
 ·rw[Zd _ _ (by omega)];exact h i (by omega)
theorem Ok.keys:∀ {t:Tr} {d:Nat} {p:Nat→Bool},Ok d p t→∀x∈t.pairs,x.1.length=32∧x.2.length=32∧∀i,i<d→I6 x.1 i=p i
 | .e,_,_,_,x,hx=>by simp[Tr.pairs]at hx
 | .lf k v,d,p,⟨h1,h2,h3⟩,x,hx=>by
  simp only[Tr.pairs,List.mem_singleton]at hx;subst hx;exact ⟨h1,h2,h3⟩
 | .nd l r,d,p,⟨_,_,hl,hr⟩,x,hx=>by
  simp only[Tr.pairs,List.mem_append]at hx;rcases hx with hx | hx
  ·obtain⟨a,b,c⟩:=Ok.keys hl x hx;exact ⟨a,b,fun i hi=>by rw[c i (by omega),Zd _ _ hi]⟩
  ·obtain⟨a,b,c⟩:=Ok.keys hr x hx;exact ⟨a,b,fun i hi=>by rw[c i (by omega),Zd _ _ hi]⟩
theorem Ok.left {l r:Tr} {d:Nat} {p:Nat→Bool} (h:Ok d p (.nd l r)):∀x∈l.pairs,I6 x.1 d=false:=fun x hx=>by
 have:=(Ok.keys h.2.2.1 x hx).2.2 d (by omega);rwa [B4w]at this
theorem Ok.right {l r:Tr} {d:Nat} {p:Nat→Bool} (h:Ok d p (.nd l r)):∀x∈r.pairs,I6 x.1 d=true:=fun x hx=>by
 have:=(Ok.keys h.2.2.2 x hx).2.2 d (by omega);rwa [B4w]at this
section
variable (k v : List UInt8)
theorem Df (hk:k.length=32):∀(f d:Nat) (t:Tr) (p:Nat→Bool),f+d=256→(∀i,i<d→I6 k i=p i)→Ok d p t→
 ∀x,x∈(Fk k v f d t).pairs↔x=(k,v)∨(x∈t.pairs∧x.1≠k)
 | f,d,.e,p,_,_,_,x=>by unfold Fk;simp[Tr.pairs]
 | 0,d,.lf k' v',p,hf,ha,ok,x=>by
  have e:k'=k:=Ue ok.1 hk fun i hi=>by rw[ok.2.2 i (by omega),ha i (by omega)]
  simp only[Fk,if_pos e,Tr.pairs,List.mem_singleton];constructor
  ·exact fun h=>.inl h
  ·rintro (h | ⟨rfl,h⟩)
   ·exact h
   ·exact absurd e h
 | f+1,d,.lf k' v',p,hf,ha,ok,x=>by
  unfold Fk;by_cases e:k'=k
  ·simp only[if_pos e,Tr.pairs,List.mem_singleton];constructor
   ·exact fun h=>.inl h
   ·rintro (h | ⟨rfl,h⟩)
    ·exact h
    ·exact absurd e h
  ·rw[if_neg e];have hx:(x=(k',v')∧x.1≠k)↔x=(k',v'):=⟨fun h=>h.1,fun h=>⟨h,by rw[h];exact e⟩⟩;cases hb:I6 k d<;>cases hb':I6 k' d<;>simp only[Bool.false_eq_true,if_false,if_true,Tr.pairs,List.mem_append,List.mem_singleton,List.nil_append,List.append_nil,List.not_mem_nil,or_false,false_or]
   ·rw[Df hk f (d+1) (.lf k' v') _ (by omega) (D8 ha hb) ⟨ok.1,ok.2.1,D8 ok.2.2 hb'⟩];simp only[Tr.pairs,List.mem_singleton]
   ·rw[Df hk f (d+1) .e _ (by omega) (D8 ha hb) trivial,hx];simp[Tr.pairs]
   ·rw[Df hk f (d+1) .e _ (by omega) (D8 ha hb) trivial,hx];simp[Tr.pairs,or_comm]
   ·rw[Df hk f (d+1) (.lf k' v') _ (by omega) (D8 ha hb) ⟨ok.1,ok.2.1,D8 ok.2.2 hb'⟩];simp only[Tr.pairs,List.mem_singleton]
 | 0,d,.nd l r,p,hf,ha,ok,x=>absurd ok.1 (by omega)
 | f+1,d,.nd l r,p,hf,ha,ok,x=>by
  have hl:=ok.left;have hr:=ok.right;unfold Fk;cases hb:I6 k d<;>simp only[Bool.false_eq_true,if_false,if_true,Tr.pairs,List.mem_append]
  ·rw[Df hk f (d+1) l _ (by omega) (D8 ha hb) ok.2.2.1];have:x∈r.pairs→x.1≠k:=fun h e=>by have:=hr x h;rw[e,hb]at this;cases this
   constructor
   ·rintro ((h | h) | h)
    ·exact .inl h
    ·exact .inr ⟨.inl h.1,h.2⟩
    ·exact .inr ⟨.inr h,this h⟩
   ·rintro (h | ⟨h | h,h2⟩)
    ·exact .inl (.inl h)
    ·exact .inl (.inr ⟨h,h2⟩)
    ·exact .inr h
  ·rw[Df hk f (d+1) r _ (by omega) (D8 ha hb) ok.2.2.2];have:x∈l.pairs→x.1≠k:=fun h e=>by have:=hl x h;rw[e,hb]at this;cases this
   constructor
   ·rintro (h | (h | h))
    ·exact .inr ⟨.inl h,this h⟩
    ·exact .inl h
    ·exact .inr ⟨.inr h.1,h.2⟩
   ·rintro (h | ⟨h | h,h2⟩)
    ·exact .inr (.inl h)
    ·exact .inl h
    ·exact .inr (.inr ⟨h,h2⟩)
theorem V7 (hk:k.length=32):∀(f d:Nat) (t:Tr) (p:Nat→Bool),f+d=256→(∀i,i<d→I6 k i=p i)→Ok d p t→
 (Fk k v f d t).len=t.len+(if ∃x∈t.pairs,x.1=k then 0 else 1)
 | f,d,.e,p,_,_,_=>by unfold Fk;simp[Tr.pairs,Tr.len]
 | 0,d,.lf k' v',p,hf,ha,ok=>by
  have e:k'=k:=Ue ok.1 hk fun i hi=>by rw[ok.2.2 i (by omega),ha i (by omega)]
  simp[Fk,e,Tr.pairs,Tr.len]
 | f+1,d,.lf k' v',p,hf,ha,ok=>by
  unfold Fk;by_cases e:k'=k
  ·simp[e,Tr.pairs,Tr.len]
  ·rw[if_neg e];have he:¬ ∃x∈(Tr.lf k' v').pairs,x.1=k:=by rintro ⟨x,hx,h⟩;simp[Tr.pairs]at hx;subst hx;exact e h
   rw[if_neg he];have h0:¬ ∃x∈Tr.e.pairs,x.1=k:=by rintro ⟨x,hx,h⟩;simp[Tr.pairs]at hx
   cases hb:I6 k d<;>cases hb':I6 k' d<;>simp only[Bool.false_eq_true,if_false,if_true,Tr.len]
   ·rw[V7 hk f (d+1) (.lf k' v') _ (by omega) (D8 ha hb) ⟨ok.1,ok.2.1,D8 ok.2.2 hb'⟩,if_neg he];rfl
   ·rw[V7 hk f (d+1) .e _ (by omega) (D8 ha hb) trivial,if_neg h0];rfl
   ·rw[V7 hk f (d+1) .e _ (by omega) (D8 ha hb) trivial,if_neg h0];rfl
   ·rw[V7 hk f (d+1) (.lf k' v') _ (by omega) (D8 ha hb) ⟨ok.1,ok.2.1,D8 ok.2.2 hb'⟩,if_neg he];simp[Tr.len]
 | 0,d,.nd l r,p,hf,ha,ok=>absurd ok.1 (by omega)
 | f+1,d,.nd l r,p,hf,ha,ok=>by
  have hl:=ok.left;have hr:=ok.right;unfold Fk;cases hb:I6 k d<;>simp only[Bool.false_eq_true,if_false,if_true,Tr.len]
  ·rw[V7 hk f (d+1) l _ (by omega) (D8 ha hb) ok.2.2.1];have:(∃x∈(Tr.nd l r).pairs,x.1=k)↔∃x∈l.pairs,x.1=k:=by
    constructor
    ·rintro ⟨x,hx,h⟩;simp only[Tr.pairs,List.mem_append]at hx;rcases hx with hx | hx
     ·exact ⟨x,hx,h⟩
     ·have:=hr x hx;rw[h,hb]at this;cases this
    ·rintro ⟨x,hx,h⟩;exact ⟨x,by simp[Tr.pairs,hx],h⟩
   simp only[this];omega
  ·rw[V7 hk f (d+1) r _ (by omega) (D8 ha hb) ok.2.2.2];have:(∃x∈(Tr.nd l r).pairs,x.1=k)↔∃x∈r.pairs,x.1=k:=by
    constructor
    ·rintro ⟨x,hx,h⟩;simp only[Tr.pairs,List.mem_append]at hx;rcases hx with hx | hx
     ·have:=hl x hx;rw[h,hb]at this;cases this
     ·exact ⟨x,hx,h⟩
    ·rintro ⟨x,hx,h⟩;exact ⟨x,by simp[Tr.pairs,hx],h⟩
   simp only[this];omega
theorem Np (hk:k.length=32) (hv:v.length=32):∀(f d:Nat) (t:Tr) (p:Nat→Bool),f+d=256→(∀i,i<d→I6 k i=p i)→Ok d p t→Ok d p (Fk k v f d t)
 | f,d,.e,p,_,ha,_=>by unfold Fk;exact ⟨hk,hv,ha⟩
 | 0,d,.lf k' v',p,hf,ha,ok=>by
  have e:k'=k:=Ue ok.1 hk fun i hi=>by rw[ok.2.2 i (by omega),ha i (by omega)]
  simp only[Fk,if_pos e];exact ⟨hk,hv,ha⟩
 | f+1,d,.lf k' v',p,hf,ha,ok=>by
  unfold Fk;by_cases e:k'=k
  ·rw[if_pos e];exact ⟨hk,hv,ha⟩
  ·rw[if_neg e];have he:¬ ∃x∈(Tr.lf k' v').pairs,x.1=k:=by rintro ⟨x,hx,h⟩;simp[Tr.pairs]at hx;subst hx;exact e h
   have h0:¬ ∃x∈Tr.e.pairs,x.1=k:=by rintro ⟨x,hx,h⟩;simp[Tr.pairs]at hx
   cases hb:I6 k d<;>cases hb':I6 k' d<;>simp only[Bool.false_eq_true,if_false,if_true]
   ·have aA:Ok (d+1) (Xp p d false) (.lf k' v'):=⟨ok.1,ok.2.1,D8 ok.2.2 hb'⟩;refine ⟨by omega,?_,Np hk hv f (d+1) _ _ (by omega) (D8 ha hb) aA,trivial⟩;rw[V7 k v hk f (d+1) _ _ (by omega) (D8 ha hb) aA,if_neg he];simp[Tr.len]
   ·refine ⟨by omega,?_,Np hk hv f (d+1) _ _ (by omega) (D8 ha hb) trivial,⟨ok.1,ok.2.1,D8 ok.2.2 hb'⟩⟩;rw[V7 k v hk f (d+1) .e _ (by omega) (D8 ha hb) trivial,if_neg h0];simp[Tr.len]
   ·refine ⟨by omega,?_,⟨ok.1,ok.2.1,D8 ok.2.2 hb'⟩,Np hk hv f (d+1) _ _ (by omega) (D8 ha hb) trivial⟩;rw[V7 k v hk f (d+1) .e _ (by omega) (D8 ha hb) trivial,if_neg h0];simp[Tr.len]
   ·have aA:Ok (d+1) (Xp p d true) (.lf k' v'):=⟨ok.1,ok.2.1,D8 ok.2.2 hb'⟩;refine ⟨by omega,?_,trivial,Np hk hv f (d+1) _ _ (by omega) (D8 ha hb) aA⟩;rw[V7 k v hk f (d+1) _ _ (by omega) (D8 ha hb) aA,if_neg he];simp[Tr.len]
 | 0,d,.nd l r,p,hf,ha,ok=>absurd ok.1 (by omega)
 | f+1,d,.nd l r,p,hf,ha,ok=>by
  unfold Fk;cases hb:I6 k d<;>simp only[Bool.false_eq_true,if_false,if_true]
  ·refine ⟨by omega,?_,Np hk hv f (d+1) l _ (by omega) (D8 ha hb) ok.2.2.1,ok.2.2.2⟩;rw[V7 k v hk f (d+1) l _ (by omega) (D8 ha hb) ok.2.2.1];have:=ok.2.1;omega
  ·refine ⟨by omega,?_,ok.2.2.1,Np hk hv f (d+1) r _ (by omega) (D8 ha hb) ok.2.2.2⟩;rw[V7 k v hk f (d+1) r _ (by omega) (D8 ha hb) ok.2.2.2];have:=ok.2.1;omega
end
end
theorem Ch (w:World) (k v:List UInt8) (n:Nat):Below w.heap.size w (((w.alloc (.cells (c8 k).toArray 35)).alloc (.cells (c8 v).toArray 35)).drewN n):=
 N6 (((Below.refl _ _).alloc (Nat.le_refl _) _).alloc (by simp) _) n
theorem A6k (k v:List UInt8) (hk:k.length=32) (hv:v.length=32) (t:Tr) (ht:t=.e∨∃v',t=.lf k v') (pt:Value) (n:Int) (w:World) (hat:At w w.heap.size t pt) :
 Calls Tryz.prog 103 #[pt,.int .i64 n,A8 k,A8 v] w fun e w'=>∃p,e=.returned p∧At w' w'.heap.size (.lf k v) p∧Below w.heap.size w w':=by
 rcases ht with rfl | ⟨v',rfl⟩
 ·obtain rfl:pt=.pointer none:=hat;go_enter Tryz.func103,Tryz.ntmps103;go_wp2_with fail;go_quiet (fail);go_wp2_with fail;refine (B1c k v hk hv _).mono ?_;rintro e w1 ⟨p,rfl,ha,hb⟩;have B1:=C1 (Ch w k v nq) hb (Ch w k v nq).size;clear hb;go_wp2_with fail;go_ret;exact ⟨_,rfl,ha,B1⟩
 ·obtain⟨g,rfl,hg,_,aA,hb⟩:=hat;have hc:=Hn hb hk aA (Tr.root_length _);have aB:=A0z hb hk;have aC:(k==k)=true:=by simp
  clear hb;go_enter Tryz.func103,Tryz.ntmps103;go_wp2_with fail;go_quiet (fail);go_wp2_with fail;refine (B1c k v hk hv _).mono ?_;rintro e w1 ⟨p,rfl,ha,hb⟩;have B1:=C1 (Ch w k v nq) hb (Ch w k v nq).size;clear hb;go_wp2_with fail;go_ret;exact ⟨_,rfl,ha,B1⟩
theorem D6r (k v:List UInt8) (hk:k.length=32) (hv:v.length=32):∀(f d:Nat) (t:Tr) (P:Nat→Bool) (pt:Value) (n:Int) (w:World),f+d=256→n=(d:Int)→(∀i,i<d→I6 k i=P i)→Ok d P t→t.len≤1000000000000→At w w.heap.size t pt→
 Calls Tryz.prog 103 #[pt,.int .i64 n,A8 k,A8 v] w fun e w'=>∃p,e=.returned p∧At w' w'.heap.size (Fk k v f d t) p∧Below w.heap.size w w':=by
 intro f;induction f with
 | zero=>
  intro d t P pt n w hf hn ha ok aI aH;cases t with
  | e=>exact A6k k v hk hv .e (.inl rfl) pt n w aH
  | lf k' v'=>
   have e:k'=k:=Ue ok.1 hk fun i hi=>by rw[ok.2.2 i (by omega),ha i (by omega)]
   have e2:Fk k v 0 d (.lf k' v')=.lf k v:=by simp[Fk,e]
   rw[e2];subst e;exact A6k k' v hk hv _ (.inr ⟨v',rfl⟩) pt n w aH
  | nd l r=>exact absurd ok.1 (by omega)
 | succ f ih=>
  intro d t P pt n w hf hn ha ok aI aH;cases t with
  | e=>
   have e2:Fk k v (f+1) d .e=.lf k v:=by simp[Fk]
   rw[e2];exact A6k k v hk hv .e (.inl rfl) pt n w aH
  | lf k' v'=>
   by_cases e:k'=k
   ·have e2:Fk k v (f+1) d (.lf k' v')=.lf k v:=by simp[Fk,e]
    rw[e2];subst e;exact A6k k' v hk hv _ (.inr ⟨v',rfl⟩) pt n w aH
   ·subst hn;have aO:(k'==k)=false:=by simp[e]
    have aC:=aH;obtain⟨g,rfl,hg,aG,aJ,hb⟩:=aH;have hc:=Hn hb aG aJ (Tr.root_length _);have aM:=A0z hb aG;have hl:=Va hb aG aJ;have hr:=Rh hb aG aJ;have hd:d<256:=by omega
    clear hb;cases hb:I6 k d<;>cases hb':I6 k' d
    ·have e2:Fk k v (f+1) d (.lf k' v')=.nd (Fk k v f (d+1) (.lf k' v')) (.e):=by simp[Fk,e,hb,hb']
     have aA:Ok (d+1) (Xp P d false) (.lf k' v'):=⟨aG,aJ,D8 ok.2.2 hb'⟩;have aB:=V7 k v hk f (d+1) (.lf k' v') _ (by omega) (D8 ha hb) aA;have aD:(Fk k v f (d+1) (.lf k' v')).len≤2:=by rw[aB];split<;>simp[Tr.len]
     clear aB;rw[e2];clear e2;go_enter Tryz.func103,Tryz.ntmps103;go_wp2_with fail;go_quiet (fail);go_wp2_with fail;go_quiet (fail);go_wp2_with fail;clear hc aM hl hr;refine (X5 k' d aG hd _).mono ?_;rintro e' w1 ⟨rfl,h1⟩;have K1:Bk w1 w.heap.size 35 (c8 k):=(Bk.drewN ((Bk.new w _ (c8 k)).alloc _) _).below h1 (by simp;omega);have V1:Bk w1 (w.heap.size+1) 35 (c8 v):=(Bk.drewN (by simpa using Bk.new (w.alloc (.cells (c8 k).toArray 35)) 35 (c8 v)) _).below h1 (by simp);have B1:=C1 (Ch w k v _) h1 (Ch w k v _).size;have z1:=V1.lt;have k1:D9 w1 ⟨w.heap.size,0,none⟩ 32=some (c8 k):=by have:=K1.rows;rwa [C6,hk]at this
     rw[hb'];clear h1;go_wp2_with fail;refine (X5 k d hk hd _).mono ?_;rintro e' w2 ⟨rfl,h2⟩;have K2:=K1.below h2 K1.lt;have V2:=V1.below h2 V1.lt;have B2:=C1 B1 h2 B1.size;have k2:D9 w2 ⟨w.heap.size,0,none⟩ 32=some (c8 k):=by have:=K2.rows;rwa [C6,hk]at this
     have v2:D9 w2 ⟨w.heap.size+1,0,none⟩ 32=some (c8 v):=by have:=V2.rows;rwa [C6,hv]at this
     rw[hb];clear h2 k1 K1 V1 B1 K2 V2;go_wp2_with fail;refine (ih (d+1) (.lf k' v') _ (.pointer (some ⟨g,0,none⟩)) _ w2 (by omega) (by omega) (D8 ha hb) aA (by simp[Tr.len]) ((aC.below B2).more B2.size)).mono ?_;rintro e' w3 ⟨p,rfl,aE,h3⟩;have aF:At w3 w3.heap.size (.e) (.pointer none):=rfl;have B3:=C1 B2 h3 B2.size;clear h3 k2 v2;go_wp2_with fail;refine (Gm _ (.e) p (.pointer none) (by simp only[Tr.len]at *;omega) w3 aE aF).mono ?_;rintro e' w4 ⟨q,rfl,hq,h4⟩;go_wp2_with fail;go_ret;exact ⟨_,rfl,hq,C1 B3 h4 B3.size⟩
    ·have e2:Fk k v (f+1) d (.lf k' v')=.nd (Fk k v f (d+1) (.e)) (.lf k' v'):=by simp[Fk,e,hb,hb']
     have aA:Ok (d+1) (Xp P d false) (.e):=trivial;have aB:=V7 k v hk f (d+1) (.e) _ (by omega) (D8 ha hb) aA;have aD:(Fk k v f (d+1) (.e)).len≤2:=by rw[aB];split<;>simp[Tr.len]
     clear aB;rw[e2];clear e2;go_enter Tryz.func103,Tryz.ntmps103;go_wp2_with fail;go_quiet (fail);go_wp2_with fail;go_quiet (fail);go_wp2_with fail;clear hc aM hl hr;refine (X5 k' d aG hd _).mono ?_;rintro e' w1 ⟨rfl,h1⟩;have K1:Bk w1 w.heap.size 35 (c8 k):=(Bk.drewN ((Bk.new w _ (c8 k)).alloc _) _).below h1 (by simp;omega);have V1:Bk w1 (w.heap.size+1) 35 (c8 v):=(Bk.drewN (by simpa using Bk.new (w.alloc (.cells (c8 k).toArray 35)) 35 (c8 v)) _).below h1 (by simp);have B1:=C1 (Ch w k v _) h1 (Ch w k v _).size;have z1:=V1.lt;have k1:D9 w1 ⟨w.heap.size,0,none⟩ 32=some (c8 k):=by have:=K1.rows;rwa [C6,hk]at this
     rw[hb'];clear h1;go_wp2_with fail;refine (X5 k d hk hd _).mono ?_;rintro e' w2 ⟨rfl,h2⟩;have K2:=K1.below h2 K1.lt;have V2:=V1.below h2 V1.lt;have B2:=C1 B1 h2 B1.size;have k2:D9 w2 ⟨w.heap.size,0,none⟩ 32=some (c8 k):=by have:=K2.rows;rwa [C6,hk]at this
     have v2:D9 w2 ⟨w.heap.size+1,0,none⟩ 32=some (c8 v):=by have:=V2.rows;rwa [C6,hv]at this
     rw[hb];clear h2 k1 K1 V1 B1 K2 V2;go_wp2_with fail;refine (ih (d+1) (.e) _ (.pointer none) _ w2 (by omega) (by omega) (D8 ha hb) aA (by simp[Tr.len]) (rfl)).mono ?_;rintro e' w3 ⟨p,rfl,aE,h3⟩;have aF:At w3 w3.heap.size (.lf k' v') (.pointer (some ⟨g,0,none⟩)):=(((aC.below B2).more B2.size).below h3).more h3.size;have B3:=C1 B2 h3 B2.size;clear h3 k2 v2;go_wp2_with fail;refine (Gm _ (.lf k' v') p (.pointer (some ⟨g,0,none⟩)) (by simp only[Tr.len]at *;omega) w3 aE aF).mono ?_;rintro e' w4 ⟨q,rfl,hq,h4⟩;go_wp2_with fail;go_ret;exact ⟨_,rfl,hq,C1 B3 h4 B3.size⟩
    ·have e2:Fk k v (f+1) d (.lf k' v')=.nd (.lf k' v') (Fk k v f (d+1) (.e)):=by simp[Fk,e,hb,hb']
     have aA:Ok (d+1) (Xp P d true) (.e):=trivial;have aB:=V7 k v hk f (d+1) (.e) _ (by omega) (D8 ha hb) aA;have aD:(Fk k v f (d+1) (.e)).len≤2:=by rw[aB];split<;>simp[Tr.len]
     clear aB;rw[e2];clear e2;go_enter Tryz.func103,Tryz.ntmps103;go_wp2_with fail;go_quiet (fail);go_wp2_with fail;go_quiet (fail);go_wp2_with fail;clear hc aM hl hr;refine (X5 k' d aG hd _).mono ?_;rintro e' w1 ⟨rfl,h1⟩;have K1:Bk w1 w.heap.size 35 (c8 k):=(Bk.drewN ((Bk.new w _ (c8 k)).alloc _) _).below h1 (by simp;omega);have V1:Bk w1 (w.heap.size+1) 35 (c8 v):=(Bk.drewN (by simpa using Bk.new (w.alloc (.cells (c8 k).toArray 35)) 35 (c8 v)) _).below h1 (by simp);have B1:=C1 (Ch w k v _) h1 (Ch w k v _).size;have z1:=V1.lt;have k1:D9 w1 ⟨w.heap.size,0,none⟩ 32=some (c8 k):=by have:=K1.rows;rwa [C6,hk]at this
     rw[hb'];clear h1;go_wp2_with fail;refine (X5 k d hk hd _).mono ?_;rintro e' w2 ⟨rfl,h2⟩;have K2:=K1.below h2 K1.lt;have V2:=V1.below h2 V1.lt;have B2:=C1 B1 h2 B1.size;have k2:D9 w2 ⟨w.heap.size,0,none⟩ 32=some (c8 k):=by have:=K2.rows;rwa [C6,hk]at this
     have v2:D9 w2 ⟨w.heap.size+1,0,none⟩ 32=some (c8 v):=by have:=V2.rows;rwa [C6,hv]at this
     rw[hb];clear h2 k1 K1 V1 B1 K2 V2;go_wp2_with fail;refine (ih (d+1) (.e) _ (.pointer none) _ w2 (by omega) (by omega) (D8 ha hb) aA (by simp[Tr.len]) (rfl)).mono ?_;rintro e' w3 ⟨p,rfl,aE,h3⟩;have aF:At w3 w3.heap.size (.lf k' v') (.pointer (some ⟨g,0,none⟩)):=(((aC.below B2).more B2.size).below h3).more h3.size;have B3:=C1 B2 h3 B2.size;clear h3 k2 v2;go_wp2_with fail;refine (Gm (.lf k' v') _ (.pointer (some ⟨g,0,none⟩)) p (by simp only[Tr.len]at *;omega) w3 aF aE).mono ?_;rintro e' w4 ⟨q,rfl,hq,h4⟩;go_wp2_with fail;go_ret;exact ⟨_,rfl,hq,C1 B3 h4 B3.size⟩
    ·have e2:Fk k v (f+1) d (.lf k' v')=.nd (.e) (Fk k v f (d+1) (.lf k' v')):=by simp[Fk,e,hb,hb']
     have aA:Ok (d+1) (Xp P d true) (.lf k' v'):=⟨aG,aJ,D8 ok.2.2 hb'⟩;have aB:=V7 k v hk f (d+1) (.lf k' v') _ (by omega) (D8 ha hb) aA;have aD:(Fk k v f (d+1) (.lf k' v')).len≤2:=by rw[aB];split<;>simp[Tr.len]
     clear aB;rw[e2];clear e2;go_enter Tryz.func103,Tryz.ntmps103;go_wp2_with fail;go_quiet (fail);go_wp2_with fail;go_quiet (fail);go_wp2_with fail;clear hc aM hl hr;refine (X5 k' d aG hd _).mono ?_;rintro e' w1 ⟨rfl,h1⟩;have K1:Bk w1 w.heap.size 35 (c8 k):=(Bk.drewN ((Bk.new w _ (c8 k)).alloc _) _).below h1 (by simp;omega);have V1:Bk w1 (w.heap.size+1) 35 (c8 v):=(Bk.drewN (by simpa using Bk.new (w.alloc (.cells (c8 k).toArray 35)) 35 (c8 v)) _).below h1 (by simp);have B1:=C1 (Ch w k v _) h1 (Ch w k v _).size;have z1:=V1.lt;have k1:D9 w1 ⟨w.heap.size,0,none⟩ 32=some (c8 k):=by have:=K1.rows;rwa [C6,hk]at this
     rw[hb'];clear h1;go_wp2_with fail;refine (X5 k d hk hd _).mono ?_;rintro e' w2 ⟨rfl,h2⟩;have K2:=K1.below h2 K1.lt;have V2:=V1.below h2 V1.lt;have B2:=C1 B1 h2 B1.size;have k2:D9 w2 ⟨w.heap.size,0,none⟩ 32=some (c8 k):=by have:=K2.rows;rwa [C6,hk]at this
     have v2:D9 w2 ⟨w.heap.size+1,0,none⟩ 32=some (c8 v):=by have:=V2.rows;rwa [C6,hv]at this
     rw[hb];clear h2 k1 K1 V1 B1 K2 V2;go_wp2_with fail;refine (ih (d+1) (.lf k' v') _ (.pointer (some ⟨g,0,none⟩)) _ w2 (by omega) (by omega) (D8 ha hb) aA (by simp[Tr.len]) ((aC.below B2).more B2.size)).mono ?_;rintro e' w3 ⟨p,rfl,aE,h3⟩;have aF:At w3 w3.heap.size (.e) (.pointer none):=rfl;have B3:=C1 B2 h3 B2.size;clear h3 k2 v2;go_wp2_with fail;refine (Gm (.e) _ (.pointer none) p (by simp only[Tr.len]at *;omega) w3 aF aE).mono ?_;rintro e' w4 ⟨q,rfl,hq,h4⟩;go_wp2_with fail;go_ret;exact ⟨_,rfl,hq,C1 B3 h4 B3.size⟩
  | nd l r=>
   subst hn;have aC:=aH;obtain⟨g,pl,pr,rfl,hg,aN,aK,aL⟩:=aH;have hc:=Hn aN (I1 32) (I1 32) (Tr.root_length _);have hl:=Va aN (I1 32) (I1 32);have hr:=Rh aN (I1 32) (I1 32);have hd:d<256:=ok.1;have aP:((l.len:Int)+r.len==1)=false:=by have:=ok.2.1;rw[beq_eq_false_iff_ne];omega
   clear aN;cases hb:I6 k d
   ·have e2:Fk k v (f+1) d (.nd l r)=.nd (Fk k v f (d+1) l) r:=by simp[Fk,hb]
    have aA:Ok (d+1) (Xp P d false) l:=ok.2.2.1;have aB:=V7 k v hk f (d+1) l _ (by omega) (D8 ha hb) aA;have aD:(Fk k v f (d+1) l).len≤l.len+1:=by rw[aB];split<;>omega
    clear aB;rw[e2];clear e2;go_enter Tryz.func103,Tryz.ntmps103;go_wp2_with fail;go_quiet (fail);go_wp2_with fail;go_quiet (fail);go_wp2_with fail;clear hc hl hr;refine (X5 k d hk hd _).mono ?_;rintro e' w2 ⟨rfl,h1⟩;have K2:Bk w2 w.heap.size 35 (c8 k):=(Bk.drewN ((Bk.new w _ (c8 k)).alloc _) _).below h1 (by simp;omega);have V2:Bk w2 (w.heap.size+1) 35 (c8 v):=(Bk.drewN (by simpa using Bk.new (w.alloc (.cells (c8 k).toArray 35)) 35 (c8 v)) _).below h1 (by simp);have B2:=C1 (Ch w k v _) h1 (Ch w k v _).size;have z1:=V2.lt;have k2:D9 w2 ⟨w.heap.size,0,none⟩ 32=some (c8 k):=by have:=K2.rows;rwa [C6,hk]at this
    have v2:D9 w2 ⟨w.heap.size+1,0,none⟩ 32=some (c8 v):=by have:=V2.rows;rwa [C6,hv]at this
    rw[hb];clear h1 K2 V2;go_wp2_with fail;refine (ih (d+1) l _ pl _ w2 (by omega) (by omega) (D8 ha hb) aA (by simp only[Tr.len]at aI;omega) ((aK.below B2).more B2.size)).mono ?_;rintro e' w3 ⟨p,rfl,aE,h3⟩;have aF:At w3 w3.heap.size r pr:=((aL.below (B2.trans (h3.mono B2.size)))).more (by have:=B2.size;have:=h3.size;omega);have B3:=C1 B2 h3 B2.size;clear h3 k2 v2;go_wp2_with fail;refine (Gm _ r p pr (by simp only[Tr.len]at *;omega) w3 aE aF).mono ?_;rintro e' w4 ⟨q,rfl,hq,h4⟩;go_wp2_with fail;go_ret;exact ⟨_,rfl,hq,C1 B3 h4 B3.size⟩
   ·have e2:Fk k v (f+1) d (.nd l r)=.nd l (Fk k v f (d+1) r):=by simp[Fk,hb]
    have aA:Ok (d+1) (Xp P d true) r:=ok.2.2.2;have aB:=V7 k v hk f (d+1) r _ (by omega) (D8 ha hb) aA;have aD:(Fk k v f (d+1) r).len≤r.len+1:=by rw[aB];split<;>omega
    clear aB;rw[e2];clear e2;go_enter Tryz.func103,Tryz.ntmps103;go_wp2_with fail;go_quiet (fail);go_wp2_with fail;go_quiet (fail);go_wp2_with fail;clear hc hl hr;refine (X5 k d hk hd _).mono ?_;rintro e' w2 ⟨rfl,h1⟩;have K2:Bk w2 w.heap.size 35 (c8 k):=(Bk.drewN ((Bk.new w _ (c8 k)).alloc _) _).below h1 (by simp;omega);have V2:Bk w2 (w.heap.size+1) 35 (c8 v):=(Bk.drewN (by simpa using Bk.new (w.alloc (.cells (c8 k).toArray 35)) 35 (c8 v)) _).below h1 (by simp);have B2:=C1 (Ch w k v _) h1 (Ch w k v _).size;have z1:=V2.lt;have k2:D9 w2 ⟨w.heap.size,0,none⟩ 32=some (c8 k):=by have:=K2.rows;rwa [C6,hk]at this
    have v2:D9 w2 ⟨w.heap.size+1,0,none⟩ 32=some (c8 v):=by have:=V2.rows;rwa [C6,hv]at this
    rw[hb];clear h1 K2 V2;go_wp2_with fail;refine (ih (d+1) r _ pr _ w2 (by omega) (by omega) (D8 ha hb) aA (by simp only[Tr.len]at aI;omega) ((aL.below B2).more B2.size)).mono ?_;rintro e' w3 ⟨p,rfl,aE,h3⟩;have aF:At w3 w3.heap.size l pl:=((aK.below (B2.trans (h3.mono B2.size)))).more (by have:=B2.size;have:=h3.size;omega);have B3:=C1 B2 h3 B2.size;clear h3 k2 v2;go_wp2_with fail;refine (Gm l _ pl p (by simp only[Tr.len]at *;omega) w3 aF aE).mono ?_;rintro e' w4 ⟨q,rfl,hq,h4⟩;go_wp2_with fail;go_ret;exact ⟨_,rfl,hq,C1 B3 h4 B3.size⟩
theorem Fi (t:Tr) (p:Value) (d:Int) (w:World) (h:At w w.heap.size t p) :
 Calls Tryz.prog 146 #[.agg #[p,.int .i64 d]] w fun e w'=>e=.returned (.int .i64 (t.len:Int))∧Below w.heap.size w w':=by
 have ha:=(h.below ((Below.refl w.heap.size w).alloc (Nat.le_refl _) (.cells #[p,.int .i64 d] 53)));go_enter Tryz.func146,Tryz.ntmps146;go_wp2_with fail;refine (A8s t p _ _ ha).mono ?_;rintro e w' ⟨rfl,rfl⟩;go_wp2_with fail;go_ret;exact ⟨rfl,(Below.refl _ _).alloc (Nat.le_refl _) _⟩
theorem A4j (t:Tr) (p:Value) (d:Int) (w:World) (h:At w w.heap.size t p) :
 Calls Tryz.prog 57 #[.agg #[p,.int .i64 d]] w fun e w'=>e=.returned (A8 t.root)∧Below w.heap.size w w':=by
 have hl:=Tr.root_length t;go_enter Tryz.func57,Tryz.ntmps57;go_wp2_with fail;obtain⟨w0,aA⟩:∃x,x=(w.alloc (Obj.cells #[p,.int .i64 d] 53)).alloc (Obj.cells (c8 (z8 32)).toArray 35):=⟨_,rfl⟩;rw[←aA];have B0:Below w.heap.size w w0:=by rw[aA];exact ((Below.refl _ _).alloc (Nat.le_refl _) _).alloc (by simp) _
 have R0:Bk w0 (w.heap.size+1) 35 (c8 (z8 32)):=by rw[aA];simpa using Bk.new (w.alloc (Obj.cells #[p,.int .i64 d] 53)) 35 (c8 (z8 32))
 clear aA;refine (A1m t p w0 ((h.below B0).more B0.size)).mono ?_;rintro e w1 ⟨rfl,h1⟩;have R1:=R0.below h1 R0.lt;have B1:=C1 B0 h1 B0.size;have aB:E7 w1 ⟨w.heap.size+1,0,none⟩ 32=true:=R1.can (by simp);go_wp2_with fail;exact bodyPost_ret (C7 rfl _ _ _ _ _ _ rfl (R1.puts (vs:=c8 t.root) (by simp[hl])) Tryz.underlying35 rfl (by simp[I8,hl])) rfl ⟨rfl,C0 B1 (by simp) _⟩
theorem B2y (k v:List UInt8) (hk:k.length=32) (hv:v.length=32) (d:Nat) (t:Tr) (P:Nat→Bool) (p:Value) (w:World) (hd:d≤256) (ha:∀i,i<d→I6 k i=P i) (ok:Ok d P t) (hlen:t.len≤1000000000000) (h:At w w.heap.size t p) :
 Calls Tryz.prog 55 #[.agg #[p,.int .i64 (d:Int)],A8 k,A8 v] w fun e w'=>∃q,e=.returned (.agg #[q,.int .i64 (d:Int)])∧At w' w'.heap.size (Fk k v (256-d) d t) q∧Below w.heap.size w w':=by
 obtain⟨ap,rfl⟩:=h.form;go_enter Tryz.func55,Tryz.ntmps55;go_wp2_with fail;obtain⟨w0,aA⟩:∃x,x=((((w.alloc (Obj.cells #[.pointer ap,.int .i64 (d:Int)] 53)).alloc (Obj.cells (c8 k).toArray 35)).alloc (Obj.cells (c8 v).toArray 35)).alloc (Obj.cells #[.pointer none,.int .i64 0] 53)):=⟨_,rfl⟩;rw[←aA];have B0:Below w.heap.size w w0:=by rw[aA];exact ((((Below.refl _ _).alloc (Nat.le_refl _) _).alloc (by simp) _).alloc (by simp;omega) _).alloc (by simp;omega) _
 have T0:Bk w0 w.heap.size 53 [.pointer ap,.int .i64 (d:Int)]:=by rw[aA];exact ((((Bk.new w _ [.pointer ap,.int .i64 (d:Int)]).alloc _).alloc _).alloc _)
 have K0:Bk w0 (w.heap.size+1) 35 (c8 k):=by rw[aA];exact ((by simpa using Bk.new (w.alloc (Obj.cells #[.pointer ap,.int .i64 (d:Int)] 53)) 35 (c8 k):Bk _ _ _ _).alloc _).alloc _
 have V0:Bk w0 (w.heap.size+1+1) 35 (c8 v):=by rw[aA];exact ((by simpa using Bk.new ((w.alloc (Obj.cells #[.pointer ap,.int .i64 (d:Int)] 53)).alloc (Obj.cells (c8 k).toArray 35)) 35 (c8 v):Bk _ _ _ _).alloc _)
 have R0:Bk w0 (w.heap.size+1+1+1) 53 [.pointer none,.int .i64 0]:=by rw[aA];simpa using Bk.new (((w.alloc (Obj.cells #[.pointer ap,.int .i64 (d:Int)] 53)).alloc (Obj.cells (c8 k).toArray 35)).alloc (Obj.cells (c8 v).toArray 35)) 53 [.pointer none,.int .i64 0]
 clear aA;have z0:=R0.lt;refine Ot (A:=?A) (fun W=>Below (w.heap.size+1+1+1) w0 W) [0,1,2,3,4,5,7,8] [6,9,10] (by kernel_rfl) (by kernel_rfl) (by kernel_rfl) (by kernel_rfl) rfl rfl (by kernel_rfl) (by kernel_rfl) ?hS (fun W hW=>?h) (fun hS=>?t);case hS=>exact (Below.refl _ _).drew
 case h=>
  have r1:=(K0.below hW (by omega)).rows;have r2:=(V0.below hW (by omega)).rows;rw[C6,hk]at r1;rw[C6,hv]at r2;have T1:=T0.below hW (by omega);have c0:W.cell? ⟨w.heap.size,0,none⟩=some (.pointer ap):=T1.at_ rfl;have c1:W.cell? ⟨w.heap.size,1,none⟩=some (.int .i64 (d:Int)):=T1.at_ rfl;clear T1;simp only[pick,List.getElem?_cons_zero,List.getElem?_cons_succ];repeat (go_big_quiet_step (fail))
  refine wpQuiet_nil ?_;rfl
 case t=>simp only[pick,List.getElem?_cons_zero,List.getElem?_cons_succ];refine H8 (by rfl) (fun Q' hQ'=>?_);go_wp2_with fail;have aB:At w0.drew w0.drew.heap.size t (.pointer ap):=(h.below B0.drew).more B0.drew.size;refine (D6r k v hk hv (256-d) d t P _ _ w0.drew (by omega) rfl ha ok hlen aB).mono ?_;rintro e w1 ⟨q,rfl,hq,h1⟩;obtain⟨aq,rfl⟩:=hq.form;have R1:=R0.drew.below h1 z0;have B1:=C1 B0.drew h1 B0.drew.size;have S1:Below (w.heap.size+1+1+1) w0 w1:=(Below.refl _ _).drew.trans (h1.mono (by simp;omega));go_wp2_with fail;refine hQ' _ _ S1 ?_;clear hQ';refine H8 (by rfl) (fun Q' hQ'=>?_);go_wp2_with fail;refine hQ' _ _ S1 ?_;clear hQ';have f0:=R1.at_ (i:=0) rfl;have f1:=R1.at_ (i:=1) rfl;have g0:=R1.frozen 0;have g1:=R1.frozen 1;refine H8 (by rfl) (fun Q' hQ'=>?_);go_wp2_with fail;have R2:=(R1.set_ 0 (.pointer aq)).set_ 1 (.int .i64 (d:Int));have B2:Below w.heap.size w ((w1.setCell ⟨w.heap.size+1+1+1,0,none⟩ (.pointer aq)).setCell ⟨w.heap.size+1+1+1,1,none⟩ (.int .i64 (d:Int))):=(B1.setCell (by simp;omega) _).setCell (by simp;omega) _;have aC:=(hq.set_ R1 (by decide) 0 (.pointer aq)).set_ (R1.set_ 0 (.pointer aq)) (by decide) 1 (.int .i64 (d:Int));refine hQ' _ _ ((S1.setCell (by simp) _).setCell (by simp) _) ?_;refine Gy ?_;go_wp2_with fail;exact bodyPost_ret (C7 rfl _ _ _ _ _ _ rfl R2 Tryz.underlying53 rfl (by kernel_rfl)) rfl ⟨_,rfl,aC.more (by simp),B2⟩
theorem A3r (t:Tr) (p:Value) (d:Int) (w:World) (h:At w w.heap.size t p) (hl:t.len<2) :
 Calls Tryz.prog 148 #[.agg #[p,.int .i64 d]] w fun e w'=>e=.returned (.tuple #[.agg #[.pointer none,.int .i64 0],.agg #[.pointer none,.int .i64 0],.bool false])∧Below w.heap.size w w':=by
 obtain⟨ap,rfl⟩:=h.form;have aB:decide ((t.len:Int)<2)=true:=decide_eq_true (by omega);go_enter Tryz.func148,Tryz.ntmps148;go_wp2_with fail;obtain⟨w0,aA⟩:∃x,x=((w.alloc (Obj.cells #[.pointer ap,.int .i64 d] 53)).alloc (Obj.cells #[.pointer none,.int .i64 0] 53)).alloc (Obj.cells #[.pointer none,.int .i64 0] 53):=⟨_,rfl⟩;rw[←aA];have B0:Below w.heap.size w w0:=by rw[aA];exact (((Below.refl _ _).alloc (Nat.le_refl _) _).alloc (by simp) _).alloc (by simp;omega) _
 have L0:Bk w0 (w.heap.size+1) 53 [.pointer none,.int .i64 0]:=by rw[aA];exact (by simpa using Bk.new (w.alloc (Obj.cells #[.pointer ap,.int .i64 d] 53)) 53 [.pointer none,.int .i64 0]:Bk _ _ _ _).alloc _
 have R0:Bk w0 (w.heap.size+1+1) 53 [.pointer none,.int .i64 0]:=by rw[aA];simpa using Bk.new ((w.alloc (Obj.cells #[.pointer ap,.int .i64 d] 53)).alloc (Obj.cells #[.pointer none,.int .i64 0] 53)) 53 [.pointer none,.int .i64 0]
 clear aA;refine (Fi t _ d w0 ((h.below B0).more B0.size)).mono ?_;rintro e w1 ⟨rfl,h1⟩;have L1:=L0.below h1 L0.lt;have R1:=R0.below h1 R0.lt;have B1:=C1 B0 h1 B0.size;have f0:=L1.at_ (i:=0) rfl;have f1:=L1.at_ (i:=1) rfl;have g0:=L1.frozen 0;have g1:=L1.frozen 1;have f2:=R1.at_ (i:=0) rfl;have f3:=R1.at_ (i:=1) rfl;have g2:=R1.frozen 0;have g3:=R1.frozen 1;clear h1 h;go_wp2_with fail;have L2:=(((L1.set_ 0 (.pointer none)).set_ 1 (.int .i64 0)).far (p:=⟨w.heap.size+1+1,0,none⟩) (by simp) (.pointer none)).far (p:=⟨w.heap.size+1+1,1,none⟩) (by simp) (.int .i64 0);have R2:=(((R1.far (p:=⟨w.heap.size+1,0,none⟩) (by simp) (.pointer none)).far (p:=⟨w.heap.size+1,1,none⟩) (by simp) (.int .i64 0)).set_ 0 (.pointer none)).set_ 1 (.int .i64 0);exact bodyPost_ret (X6 rfl (H9.row L2 rfl _ Tryz.underlying53 rfl (by kernel_rfl)) (H9.row R2 rfl _ Tryz.underlying53 rfl (by kernel_rfl)) (H9.tmp rfl)) rfl
  ⟨rfl,(((B1.setCell (by simp) _).setCell (by simp) _).setCell (by simp;omega) _).setCell (by simp;omega) _⟩
theorem B4f (l r:Tr) (p:Value) (d:Nat) (w:World) (h:At w w.heap.size (.nd l r) p) (hl:2≤l.len+r.len) (hd:d≤256) :
 Calls Tryz.prog 148 #[.agg #[p,.int .i64 (d:Int)]] w fun e w'=>∃pl pr,e=.returned (.tuple #[.agg #[pl,.int .i64 ((d:Int)+1)],.agg #[pr,.int .i64 ((d:Int)+1)],.bool true])∧At w' w'.heap.size l pl∧At w' w'.heap.size r pr∧Below w.heap.size w w':=by
 have aD:=h;obtain⟨g,pl,pr,rfl,hg,hb,aA,aB⟩:=h;obtain⟨al,rfl⟩:=aA.form;obtain⟨ar,rfl⟩:=aB.form;have aI:decide (((Tr.nd l r).len:Int)<2)=false:=by simp only[Tr.len];exact decide_eq_false (by omega)
 go_enter Tryz.func148,Tryz.ntmps148;go_wp2_with fail;obtain⟨w0,aC⟩:∃x,x=((w.alloc (Obj.cells #[.pointer (some ⟨g,0,none⟩),.int .i64 (d:Int)] 53)).alloc (Obj.cells #[.pointer none,.int .i64 0] 53)).alloc (Obj.cells #[.pointer none,.int .i64 0] 53):=⟨_,rfl⟩;rw[←aC];have B0:Below w.heap.size w w0:=by rw[aC];exact (((Below.refl _ _).alloc (Nat.le_refl _) _).alloc (by simp) _).alloc (by simp;omega) _
 have T0:Bk w0 w.heap.size 53 [.pointer (some ⟨g,0,none⟩),.int .i64 (d:Int)]:=by rw[aC];exact ((Bk.new w _ [.pointer (some ⟨g,0,none⟩),.int .i64 (d:Int)]).alloc _).alloc _
 have L0:Bk w0 (w.heap.size+1) 53 [.pointer none,.int .i64 0]:=by rw[aC];exact (by simpa using Bk.new (w.alloc (Obj.cells #[.pointer (some ⟨g,0,none⟩),.int .i64 (d:Int)] 53)) 53 [.pointer none,.int .i64 0]:Bk _ _ _ _).alloc _
 have R0:Bk w0 (w.heap.size+1+1) 53 [.pointer none,.int .i64 0]:=by rw[aC];simpa using Bk.new ((w.alloc (Obj.cells #[.pointer (some ⟨g,0,none⟩),.int .i64 (d:Int)] 53)).alloc (Obj.cells #[.pointer none,.int .i64 0] 53)) 53 [.pointer none,.int .i64 0]
 clear aC;refine (Fi (.nd l r) _ (d:Int) w0 ((aD.below B0).more B0.size)).mono ?_;rintro e w1 ⟨rfl,h1⟩;have T1:=T0.below h1 T0.lt;have L1:=L0.below h1 L0.lt;have R1:=R0.below h1 R0.lt;have B1:=C1 B0 h1 B0.size;have N1:=hb.below B1 hg;have aG:=aA.below B1;have aH:=aB.below B1;have c0:w1.cell? ⟨w.heap.size,0,none⟩=some (.pointer (some ⟨g,0,none⟩)):=T1.at_ rfl;have c1:w1.cell? ⟨w.heap.size,1,none⟩=some (.int .i64 (d:Int)):=T1.at_ rfl;have aE:=Va N1 (I1 32) (I1 32);have aF:=Rh N1 (I1 32) (I1 32);have f0:=L1.at_ (i:=0) rfl;have f1:=L1.at_ (i:=1) rfl;have g0:=L1.frozen 0;have g1:=L1.frozen 1;have f2:=R1.at_ (i:=0) rfl;have f3:=R1.at_ (i:=1) rfl;have g2:=R1.frozen 0;have g3:=R1.frozen 1;have z1:=R1.lt;clear h1 aD aA aB hb N1 T1 T0 L0 R0 B0;go_wp2_with fail;refine Ot (A:=?A) (fun W=>Below (w.heap.size+1) w1 W) [0,1,2,3,4,5,6,7,8,9,10,11,12,13,14,15,16,17] [18,19,20] (by kernel_rfl) (by kernel_rfl) (by kernel_rfl) (by kernel_rfl) rfl rfl (by kernel_rfl) (by kernel_rfl) ?hS (fun W hW=>?h) (fun hS=>?t);case hS=>exact (Below.refl _ _).drew
 case h=>
  have c0:=(hW.cell (p:=⟨w.heap.size,0,none⟩) (by simp)).trans c0;have c1:=(hW.cell (p:=⟨w.heap.size,1,none⟩) (by simp)).trans c1;have aE:=(hW.cell (p:=⟨g,64,none⟩) (by simp;omega)).trans aE;have aF:=(hW.cell (p:=⟨g,65,none⟩) (by simp;omega)).trans aF;simp only[pick,List.getElem?_cons_zero,List.getElem?_cons_succ];repeat (go_big_quiet_step (fail))
  refine wpQuiet_nil ?_;rfl
 case t=>
  simp only[pick,List.getElem?_cons_zero,List.getElem?_cons_succ];have S1:Below (w.heap.size+1) w1 w1.drew:=(Below.refl _ _).drew;refine H8 (by rfl) (fun Q' hQ'=>?_);go_wp2_with fail;have S2:=(S1.setCell (p:=⟨w.heap.size+1,0,none⟩) (by simp) (.pointer al)).setCell (p:=⟨w.heap.size+1,1,none⟩) (by simp) (.int .i64 ((d:Int)+1));refine hQ' _ _ S2 ?_;clear hQ';refine H8 (by rfl) (fun Q' hQ'=>?_);go_wp2_with fail;have S3:=(S2.setCell (p:=⟨w.heap.size+1+1,0,none⟩) (by simp) (.pointer ar)).setCell (p:=⟨w.heap.size+1+1,1,none⟩) (by simp) (.int .i64 ((d:Int)+1));refine hQ' _ _ S3 ?_;clear hQ';refine H8 (by rfl) (fun Q' hQ'=>?_);go_wp2_with fail;refine hQ' _ _ S3 ?_;clear hQ';refine Gy ?_;go_wp2_with fail;have La:=L1.drew.set_ 0 (.pointer al);have Lb:=La.set_ 1 (.int .i64 ((d:Int)+1));have Lc:=Lb.far (p:=⟨w.heap.size+1+1,0,none⟩) (by simp) (.pointer ar);have Ld:=Lc.far (p:=⟨w.heap.size+1+1,1,none⟩) (by simp) (.int .i64 ((d:Int)+1));have Ra:=R1.drew.far (p:=⟨w.heap.size+1,0,none⟩) (by simp) (.pointer al);have Rb:=Ra.far (p:=⟨w.heap.size+1,1,none⟩) (by simp) (.int .i64 ((d:Int)+1));have Rc:=Rb.set_ 0 (.pointer ar);have Rd:=Rc.set_ 1 (.int .i64 ((d:Int)+1))
  have X:∀ {t:Tr} {p:Value},At w1 w.heap.size t p→At ((((w1.drew.setCell ⟨w.heap.size+1,0,none⟩ (.pointer al)).setCell ⟨w.heap.size+1,1,none⟩ (.int .i64 ((d:Int)+1))).setCell ⟨w.heap.size+1+1,0,none⟩ (.pointer ar)).setCell ⟨w.heap.size+1+1,1,none⟩ (.int .i64 ((d:Int)+1))) w1.heap.size t p:=fun h=>(h.below (S3.mono (by omega))).more B1.size;exact bodyPost_ret (X6 rfl (H9.row Ld rfl _ Tryz.underlying53 rfl (by kernel_rfl)) (H9.row Rd rfl _ Tryz.underlying53 rfl (by kernel_rfl)) (H9.tmp rfl)) rfl
   ⟨_,_,rfl,(X aG).more (by simp),(X aH).more (by simp),B1.trans (S3.mono (by omega))⟩
def klt (a b:List UInt8):Prop:=∃d,d<256∧(∀i,i<d→I6 a i=I6 b i)∧I6 a d=false∧I6 b d=true
theorem klt.ne {a b:List UInt8} (h:klt a b):a≠b:=by
 rintro rfl;obtain⟨d,_,_,h1,h2⟩:=h;rw[h1]at h2;cases h2
theorem klt.trans {a b c:List UInt8} (h:klt a b) (h':klt b c):klt a c:=by
 obtain⟨d,hd,e,h1,h2⟩:=h;obtain⟨d',aB,e',aA,aC⟩:=h';rcases Nat.lt_trichotomy d d' with hlt | rfl | hgt
 ·exact ⟨d,hd,fun i hi=>(e i hi).trans (e' i (by omega)),h1,by rw[←e' d hlt];exact h2⟩
 ·rw[h2]at aA;cases aA
 ·exact ⟨d',aB,fun i hi=>(e i (by omega)).trans (e' i hi),by rw[e d' hgt];exact aA,aC⟩
theorem klt.asymm {a b:List UInt8} (h:klt a b):¬ klt b a:=fun h'=>(h.trans h').ne rfl
theorem klt.total {a b:List UInt8} (ha:a.length=32) (hb:b.length=32) (hne:a≠b):klt a b∨klt b a:=by
 have h:∃i,i<256∧I6 a i≠I6 b i:=by apply Classical.byContradiction;intro h;exact hne (Ue ha hb fun i hi=>Classical.byContradiction fun h2=>h ⟨i,hi,h2⟩)
 have aB:∀n,(∃i,i<n∧i<256∧I6 a i≠I6 b i)→∃d,d<256∧(∀i,i<d→I6 a i=I6 b i)∧I6 a d≠I6 b d:=by
  intro n;induction n with
  | zero=>rintro ⟨i,hi,_⟩;omega
  | succ n ih=>
   rintro ⟨i,hi,h1,h2⟩;by_cases hex:∃i,i<n∧i<256∧I6 a i≠I6 b i
   ·exact ih hex
   ·have:i=n:=by apply Classical.byContradiction;intro aC;exact hex ⟨i,by omega,h1,h2⟩
    subst this;exact ⟨i,h1,fun j hj=>Classical.byContradiction fun h3=>hex ⟨j,hj,by omega,h3⟩,h2⟩
 obtain⟨i,hi,aA⟩:=h;obtain⟨d,hd,he,h2⟩:=aB 256 ⟨i,hi,hi,aA⟩;cases h1:I6 a d<;>cases h3:I6 b d
 ·rw[h1,h3]at h2;exact absurd rfl h2
 ·exact .inl ⟨d,hd,he,h1,h3⟩
 ·exact .inr ⟨d,hd,fun i hi=>(he i hi).symm,h3,h1⟩
 ·rw[h1,h3]at h2;exact absurd rfl h2
theorem Ok.sorted:∀ {t:Tr} {d:Nat} {p:Nat→Bool},Ok d p t→t.pairs.Pairwise fun x y=>klt x.1 y.1
 | .e,_,_,_=>List.Pairwise.nil
 | .lf _ _,_,_,_=>List.pairwise_singleton _ _
 | .nd l r,d,p,ok=>by
  refine List.pairwise_append.2 ⟨Ok.sorted ok.2.2.1,Ok.sorted ok.2.2.2,fun x hx y hy=>?_⟩;have h1:=Ok.keys ok.2.2.1 x hx;have h2:=Ok.keys ok.2.2.2 y hy;refine ⟨d,ok.1,fun i hi=>?_,ok.left x hx,ok.right y hy⟩;rw[h1.2.2 i (by omega),h2.2.2 i (by omega),Zd _ _ hi,Zd _ _ hi]
theorem Sa:∀ {l m:List Pr},l.Pairwise (fun x y=>klt x.1 y.1)→m.Pairwise (fun x y=>klt x.1 y.1)→(∀x,x∈l↔x∈m)→l=m
 | [],[],_,_,_=>rfl
 | [],y::m,_,_,h=>absurd ((h y).2 (by simp)) (by simp)
 | x::l,[],_,_,h=>absurd ((h x).1 (by simp)) (by simp)
 | x::l,y::m,hl,hm,h=>by
  rw[List.pairwise_cons]at hl hm;have hxy:x=y:=by
   rcases List.mem_cons.1 ((h x).1 (by simp)) with e | e
   ·exact e
   ·rcases List.mem_cons.1 ((h y).2 (by simp)) with e' | e'
    ·exact e'.symm
    ·exact absurd (hm.1 x e) (hl.1 y e').asymm
  subst hxy;congr 1;refine Sa hl.2 hm.2 fun z=>?_;constructor
  ·intro hz;rcases List.mem_cons.1 ((h z).1 (by simp[hz])) with e | e
   ·subst e;exact absurd rfl (hl.1 z hz).ne
   ·exact e
  ·intro hz;rcases List.mem_cons.1 ((h z).2 (by simp[hz])) with e | e
   ·subst e;exact absurd rfl (hm.1 z hz).ne
   ·exact e
theorem Ok.ext:∀ {t s:Tr} {d:Nat} {p q:Nat→Bool},Ok d p t→Ok d q s→t.pairs=s.pairs→t=s
 | .e,.e,_,_,_,_,_,_=>rfl
 | .e,.lf _ _,_,_,_,_,_,h=>by simp[Tr.pairs]at h
 | .lf _ _,.e,_,_,_,_,_,h=>by simp[Tr.pairs]at h
 | .lf _ _,.lf _ _,_,_,_,_,_,h=>by simp[Tr.pairs]at h;rw[h.1,h.2]
 | .e,.nd l r,_,_,_,_,ok,h=>by
  have:=ok.2.1;have h2:=congrArg List.length h;rw[←Tr.len_pairs,←Tr.len_pairs]at h2;simp only[Tr.len]at h2;omega
 | .lf _ _,.nd l r,_,_,_,_,ok,h=>by
  have:=ok.2.1;have h2:=congrArg List.length h;rw[←Tr.len_pairs,←Tr.len_pairs]at h2;simp only[Tr.len]at h2;omega
 | .nd l r,.e,_,_,_,ok,_,h=>by
  have:=ok.2.1;have h2:=congrArg List.length h;rw[←Tr.len_pairs,←Tr.len_pairs]at h2;simp only[Tr.len]at h2;omega
 | .nd l r,.lf _ _,_,_,_,ok,_,h=>by
  have:=ok.2.1;have h2:=congrArg List.length h;rw[←Tr.len_pairs,←Tr.len_pairs]at h2;simp only[Tr.len]at h2;omega
 | .nd l r,.nd l' r',d,p,q,ok,ok',h=>by
  have h1:l.pairs=l'.pairs:=by
   have:=congrArg (List.filter fun x=>!I6 x.1 d) h;simp only[Tr.pairs,List.filter_append]at this;rw[List.filter_eq_self.2 (fun x hx=>by simp[ok.left x hx]),List.filter_eq_nil_iff.2 (fun x hx=>by simp[ok.right x hx]),
    List.filter_eq_self.2 (fun x hx=>by simp[ok'.left x hx]),List.filter_eq_nil_iff.2 (fun x hx=>by simp[ok'.right x hx])]at this
   simpa using this
  have h2:r.pairs=r'.pairs:=by simp only[Tr.pairs,h1]at h;exact List.append_cancel_left h
  rw[Ok.ext ok.2.2.1 ok'.2.2.1 h1,Ok.ext ok.2.2.2 ok'.2.2.2 h2]
theorem Ok.ext_mem {t s:Tr} {d:Nat} {p q:Nat→Bool} (ht:Ok d p t) (hs:Ok d q s) (h:∀x,x∈t.pairs↔x∈s.pairs):t=s:=
 Ok.ext ht hs (Sa ht.sorted hs.sorted h)
def Tr.lead (k:List UInt8):Nat→Tr→Option Pr
 | _,.e=>none
 | _,.lf k' v=>some (k',v)
 | d,.nd l r=>if I6 k d then r.lead k (d+1) else l.lead k (d+1)
def Tr.look (k:List UInt8) (d:Nat) (t:Tr):Option (List UInt8):=match t.lead k d with | some (k',v)=>if k'=k then some v else none | none=>none
theorem A1w (k:List UInt8):∀(t:Tr) (d:Nat) (x:Pr),t.lead k d=some x→x∈t.pairs
 | .e,_,_,h=>by cases h
 | .lf _ _,_,_,h=>by injection h with h;simp[Tr.pairs,h]
 | .nd l r,d,x,h=>by
  unfold Tr.lead at h;simp only[Tr.pairs,List.mem_append];split at h
  ·exact .inr (A1w k r _ x h)
  ·exact .inl (A1w k l _ x h)
theorem A1p (k:List UInt8):∀(t:Tr) (d:Nat) (p:Nat→Bool) (v:List UInt8),Ok d p t→(k,v)∈t.pairs→t.lead k d=some (k,v)
 | .e,_,_,_,_,h=>by simp[Tr.pairs]at h
 | .lf _ _,_,_,_,_,h=>by simp[Tr.pairs]at h;rw[h.1,h.2];rfl
 | .nd l r,d,p,v,ok,h=>by
  simp only[Tr.pairs,List.mem_append]at h;unfold Tr.lead;rcases h with h | h
  ·have:=ok.left _ h;rw[if_neg (by rw[this];simp)];exact A1p k l _ _ v ok.2.2.1 h
  ·have:=ok.right _ h;rw[if_pos this];exact A1p k r _ _ v ok.2.2.2 h
theorem A4p {k v:List UInt8} {t:Tr} {d:Nat} {p:Nat→Bool} (ok:Ok d p t):t.look k d=some v↔(k,v)∈t.pairs:=by
 unfold Tr.look;constructor
 ·intro h;split at h
  ·rename_i k' v' hl
   split at h
   ·rename_i e
    injection h with h;have:=A1w k t d _ hl;rwa [e,h]at this
   ·cases h
  ·cases h
 ·intro h;rw[A1p k t d p v ok h];simp
section
def h1 (c:UInt8):List UInt8:=c::z8 31
theorem X7 (c:UInt8):(h1 c).length=32:=by simp[h1]
def A8c (w:World) (raw:Result Next):Value→Result Next
 | .int .u8 n=>if 0≤n∧n<256 then .ok (.value (A8 (h1 (UInt8.ofNat n.toNat)))) w else raw
 | _=>raw
section
variable (w : World) (raw : Result Next)
@[go_sem] theorem F5u : A8c w raw (.int .u8 1) = .ok (.value (A8 (h1 1))) w := rfl
@[go_sem] theorem F7m : A8c w raw (.int .u8 2) = .ok (.value (A8 (h1 2))) w := rfl
@[go_sem] theorem F6h : A8c w raw (.int .u8 3) = .ok (.value (A8 (h1 3))) w := rfl
@[go_sem] theorem F6t : A8c w raw (.int .u8 9) = .ok (.value (A8 (h1 9))) w := rfl
@[go_sem] theorem F0r : A8c w raw (.int .u8 128) = .ok (.value (A8 (h1 128))) w := rfl
end
theorem D9r (n:Int) (w:World):(Instr.build 35 #[(0,.int .u8 n)]).run Tryz.prog w=.ok (.agg (.int .u8 n::c8 (z8 31)).toArray) w:=by kernel_rfl
@[go_sem ↓ high] theorem E9u (w : World) (ρ : Operand → Value) (dst : Option Tmp) (ty : TypeId) (pos : String) (after : Array Edge) (guard : Option (Nat × Bool)) (x : Operand) :
 (execOp ρ { dst,op:=.build 35 #[(0,x)],type:=ty,pos,after,guard }).run Tryz.prog w=A8c w (F2 Tryz.prog ρ { dst,op:=.build 35 #[(0,x)],type:=ty,pos,after,guard } w) (ρ x):=by
 generalize hx:ρ x=v;unfold A8c;split
 ·rename_i n
  split
  ·rename_i h
   refine E9 w ρ dst ty pos after guard _ _ _ ?_;have e:A8 (h1 (UInt8.ofNat n.toNat))=.agg (.int .u8 n::c8 (z8 31)).toArray:=by
    have:n8 (UInt8.ofNat n.toNat)=n:=by
     unfold n8;rw[UInt8.toNat_ofNat'];omega
    simp[A8,h1,c8,v8,this]
   rw[e];have h2:=D9r n w;simp only[List.map_toArray,List.map_cons,List.map_nil,hx];exact h2
  ·rfl
 ·rfl
attribute [irreducible] h1
end
end Go.Proofs.YtdfpoofbgjilgaaGreat
