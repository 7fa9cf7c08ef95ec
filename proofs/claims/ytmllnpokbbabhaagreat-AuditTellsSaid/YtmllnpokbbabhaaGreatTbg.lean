/- A part of the proof of AuditTells. -/
import Derived.Test.YtmllnpokbbabhaaGreatTbd
import Derived.Test.YtmllnpokbbabhaaGreatTbe
import Derived.Test.YtmllnpokbbabhaaGreatTbf
set_option linter.unusedVariables false
set_option linter.unusedSimpArgs false
set_option maxRecDepth 100000
set_option maxHeartbeats 40000000
namespace Go.Proofs.YtmllnpokbbabhaaGreat
open Go Go.RowKit Sh
section
structure Sv where
 a:Option Addr
 n:Nat
 c:Nat
def Sv.v (s:Sv):Value:=.slice s.a s.n s.c
structure Rw where
 id:List UInt8
 s:Sv
def Rw.cells (r:Rw):List Value:=c8 r.id++[r.s.v]
def Rw.V (r:Rw):Value:=.agg r.cells.toArray
def rwz:Rw:=⟨z8 32,⟨none,0,0⟩⟩
theorem Rw.len {r:Rw} (h:r.id.length=32):r.cells.length=33:=by simp[Rw.cells,h]
theorem Rw.one (r:Rw):∀x∈r.cells,x.oneCell'=true:=by
 intro x hx;simp only[Rw.cells,List.mem_append,List.mem_singleton]at hx;rcases hx with hx | rfl
 ·obtain⟨y,_,rfl⟩:=List.mem_map.1 hx;rfl
 ·rfl
theorem B5t:(Tryz.prog.info? 73).map (·.size)=some 33:=by kernel_rfl
theorem B4u:((Tryz.prog.info? 73).bind (·.zero))=some rwz.V:=by kernel_rfl
theorem D7l:(Tryz.prog.info? 73).map (fun i=>(i.zero,i.size,i.bytes))=some (some rwz.V,33,56):=by kernel_rfl
theorem A3q:Tryz.prog.underlying 73=some (.struct (Q5 Tryz.prog 73)):=by kernel_rfl
theorem B8f (w:World):(Eu (Q5 Tryz.prog 73)).run Tryz.prog w=.ok #[(0,32),(32,1)] w:=by kernel_rfl
@[go_sem] theorem F0i (r : Rw) : Value.agg r.cells.toArray = r.V := rfl
@[go_sem] theorem D9m (n : Nat) (w : World) (raw : Result Next) (a : Addr) (r : Rw) : X5 n w raw (.pointer (some a)) r.V =
 if r.cells.length=n∧F9 w a n=true then .ok .skip (C2 w a r.cells) else raw:=by
 have h1:(r.cells.toArray.all (·.oneCell'))=true:=by rw[Array.all_eq_true'];intro x hx;exact r.one x (by simpa using hx)
 unfold Rw.V;rw[Me,h1];simp only[List.size_toArray,true_and]
section
variable (w : World) (ρ : Operand → Value) (dst : Option Tmp) (ty : TypeId) (pos : String) (after : Array Edge) (guard : Option (Nat × Bool))
@[go_sem ↓ high] theorem E6f:RL' 73 33:=LL' A3q B5t
@[go_sem ↓ high] theorem E1n:RS' 73 33:=SS' B5t
@[go_sem ↓ high] theorem E2a:RA' 73 rwz.cells.toArray:=fun w ρ dst ty pos after guard=>N8 w ρ dst ty pos after guard 73 rwz.V B4u
end
noncomputable def D4l (w:World) (raw:Result Next) (a b:Value):Result Next:=match Bs a,b with
 | some i,.slice A n c=>if i.length=32 then .ok (.value (Rw.V ⟨i,⟨A,n,c⟩⟩)) w else raw
 | _,_=>raw
@[go_sem] theorem E8d (w : World) (raw : Result Next) (i : List UInt8) (A : Option Addr) (n c : Nat) (hi : i.length = 32) : D4l w raw (A8 i) (.slice A n c) = .ok (.value (Rw.V ⟨i, ⟨A, n, c⟩⟩)) w := by
 unfold D4l;simp only[X7];simp[hi]
theorem E0m (i:List UInt8) (hi:i.length=32) (A:Option Addr) (n c:Nat) (w:World):(Instr.build 73 #[(0,A8 i),(1,.slice A n c)]).run Tryz.prog w=.ok (Rw.V ⟨i,⟨A,n,c⟩⟩) w:=by
 have aA:rwz.V.cells.toList=c8 (z8 32)++[.slice none 0 0]:=rfl;have h1:=Q8 A3q B4u w (B8f w) #[(0,A8 i),(1,.slice A n c)] [(0,c8 i),(32,[.slice A n c])] (by
  rw[aA];exact ⟨by simp[hi],rfl,by simp[hi],by simp,rfl,by simp,trivial⟩)
 refine h1.trans (congrArg (fun (cs:List Value)=>Result.ok (Value.agg cs.toArray) w) ?_);rw[aA];simp[Gl,Y7,hi,List.take_append,List.drop_append,List.drop_eq_nil_of_le,List.take_of_length_le,Rw.cells,Sv.v,c8]
@[go_sem ↓ high] theorem E2h (w : World) (ρ : Operand → Value) (dst : Option Tmp) (ty : TypeId) (pos : String) (after : Array Edge) (guard : Option (Nat × Bool)) (x y : Operand) :
 (execOp ρ { dst,op:=.build 73 #[(0,x),(1,y)],type:=ty,pos,after,guard }).run Tryz.prog w=D4l w (O9 Tryz.prog ρ { dst,op:=.build 73 #[(0,x),(1,y)],type:=ty,pos,after,guard } w) (ρ x) (ρ y):=by
 generalize h0:ρ x=a;generalize h1:ρ y=b;unfold D4l;split
 ·rename_i i A n c g0
  replace g0:=U3 g0;split
  ·rename_i h
   refine U1 w ρ dst ty pos after guard _ _ _ ?_;simp only[List.map_toArray,List.map_cons,List.map_nil,h0,h1,g0];exact E0m i h A n c w
  ·rfl
 ·rfl
@[go_sem ↓ high] theorem E9d (w : World) (ρ : Operand → Value) (dst : Option Tmp) (ty : TypeId) (pos : String) (after : Array Edge) (guard : Option (Nat × Bool)) (x : Operand) :
 (execOp ρ { dst,op:=.buildSlice 58 1 #[(0,x)],type:=ty,pos,after,guard }).run Tryz.prog w=Kv 33 73 w (O9 Tryz.prog ρ { dst,op:=.buildSlice 58 1 #[(0,x)],type:=ty,pos,after,guard } w) (ρ x):=
 Rp w ρ dst ty pos after guard 58 73 33 56 rwz.V x Tryz.underlying58 D7l (by simp[Rw.V,rwz,Rw.cells,Value.cells]) (by decide) (by decide)
@[go_sem] theorem E3v (n : Nat) (e : TypeId) (w : World) (raw : Result Next) (r : Rw) (h : r.cells.length = n) : Kv n e w raw r.V = .ok (.value (.slice (some ⟨w.heap.size, 0, none⟩) 1 1)) (w.alloc (.cells r.cells.toArray e)) := by
 unfold Rw.V;rw[Xy,if_pos (by simpa using h)]
section
variable {w w' : World} {B B' : Nat} {v : Value} {R : List Rw} {L : List En} {r : Rw} {q : En}
def KdB (w:World) (B:Nat) (row:Option Nat) (T:TypeId):Prop:=∀g,row=some g→g<B∧∃cur fz,w.heap[g]?=some (.cells cur T fz)
theorem KdB.below {w w':World} {B:Nat} {row:Option Nat} {T:TypeId} (h:KdB w B row T) (hb:Below B w w'):KdB w' B row T:=fun g hg=>by
 obtain⟨h0,c,f,h1⟩:=h g hg;exact ⟨h0,c,f,(hb.block g h0).trans h1⟩
theorem KdB.more {w:World} {B B':Nat} {row:Option Nat} {T:TypeId} (h:KdB w B row T) (hB:B≤B'):KdB w B' row T:=fun g hg=>⟨Nat.lt_of_lt_of_le (h g hg).1 hB,(h g hg).2⟩
theorem C2g {w:World} {T:TypeId} {base sz n:Nat} {v:Value} {xs:List Value} (h:w.ownsRow base T sz v n xs):KdB w w.heap.size v.ownBlock T:=by
 intro g hg;rcases h.2 with ⟨rfl,_⟩ | ⟨g',cap,cur,rfl,_,hh,_⟩
 ·cases hg
 ·injection hg with hg;subst hg;exact ⟨(Array.getElem?_eq_some_iff.1 hh).1,_,_,hh⟩
def HsT (w:World) (B:Nat) (v:Value) (ks:List (List UInt8)):Prop:=Hs w 0 B v ks∧KdB w B v.ownBlock 40
theorem HsT.below {w w':World} {B:Nat} {v:Value} {ks:List (List UInt8)} (h:HsT w B v ks) (hb:Below B w w'):HsT w' B v ks:=⟨h.1.below hb,h.2.below hb⟩
theorem HsT.more {w:World} {B B':Nat} {v:Value} {ks:List (List UInt8)} (h:HsT w B v ks) (hB:B≤B'):HsT w B' v ks:=⟨h.1.more hB,h.2.more hB⟩
def A4i (w:World) (B:Nat) (r:Rw) (q:En):Prop:=r.id=q.1∧q.1.length=32∧0<q.2.length∧HsT w B r.s.v q.2
def Bi (w:World) (B:Nat):List Rw→List En→Prop
 | [],[]=>True
 | r::R,q::L=>A4i w B r q∧Bi w B R L
 | _,_=>False
theorem A4i.below (h:A4i w B r q) (hb:Below B w w'):A4i w' B r q:=⟨h.1,h.2.1,h.2.2.1,h.2.2.2.below hb⟩
theorem A4i.more (h:A4i w B r q) (hB:B≤B'):A4i w B' r q:=⟨h.1,h.2.1,h.2.2.1,h.2.2.2.more hB⟩
theorem Bi.below:∀ {R:List Rw} {L:List En},Bi w B R L→Below B w w'→Bi w' B R L
 | [],[],_,_=>trivial
 | _::_,_::_,h,hb=>⟨h.1.below hb,Bi.below h.2 hb⟩
 | [],_::_,h,_=>h.elim
 | _::_,[],h,_=>h.elim
theorem Bi.more:∀ {R:List Rw} {L:List En},Bi w B R L→B≤B'→Bi w B' R L
 | [],[],_,_=>trivial
 | _::_,_::_,h,hb=>⟨h.1.more hb,Bi.more h.2 hb⟩
 | [],_::_,h,_=>h.elim
 | _::_,[],h,_=>h.elim
theorem Bi.len:∀ {R:List Rw} {L:List En},Bi w B R L→R.length=L.length
 | [],[],_=>rfl
 | _::R,_::L,h=>by simp[Bi.len h.2]
 | [],_::_,h=>h.elim
 | _::_,[],h=>h.elim
theorem Bi.at_:∀ {R:List Rw} {L:List En},Bi w B R L→∀ {i:Nat} {q:En},L[i]?=some q→∃r,R[i]?=some r∧A4i w B r q
 | [],[],_,i,q,h=>by simp at h
 | r::R,p::L,h,0,q,hq=>by simp at hq;subst hq;exact ⟨r,rfl,h.1⟩
 | r::R,p::L,h,i+1,q,hq=>by
  obtain⟨r',h1,h2⟩:=Bi.at_ h.2 (i:=i) (q:=q) (by simpa using hq);exact ⟨r',by simpa using h1,h2⟩
 | [],_::_,h,_,_,_=>h.elim
 | _::_,[],h,_,_,_=>h.elim
theorem Bi.ids:∀ {R:List Rw} {L:List En},Bi w B R L→∀r∈R,r.id.length=32
 | [],[],_,r,h=>by cases h
 | r::R,p::L,h,r',hr=>by
  rcases List.mem_cons.1 hr with rfl | hr
  ·rw[h.1.1];exact h.1.2.1
  ·exact Bi.ids h.2 r' hr
 | [],_::_,h,_,_=>h.elim
 | _::_,[],h,_,_=>h.elim
end
theorem D7z:∀ {R:List Rw},(∀r∈R,r.id.length=32)→(R.flatMap Rw.cells).length=R.length*33
 | [],_=>rfl
 | r::R,h=>by
  have hu:=Rw.len (h r (by simp));rw[List.flatMap_cons,List.length_append,D7z (fun x hx=>h x (by simp[hx])),hu,List.length_cons];omega
theorem E5z:∀ {R:List Rw},(∀r∈R,r.id.length=32)→∀ {i:Nat} {r:Rw},R[i]?=some r→((R.flatMap Rw.cells).drop (i*33)).take 33=r.cells
 | [],_,i,r,h=>by simp at h
 | x::R,h,0,r,hr=>by
  have hx:=Rw.len (h x (by simp));obtain rfl:x=r:=by simpa using hr
  rw[List.flatMap_cons,Nat.zero_mul,List.drop_zero,List.take_append_of_le_length (by omega),List.take_of_length_le (by omega)]
 | x::R,h,i+1,r,hr=>by
  have hx:=Rw.len (h x (by simp));have:=E5z (R:=R) (fun y hy=>h y (List.mem_cons_of_mem _ hy)) (i:=i) (r:=r) (by simpa using hr);rw[List.flatMap_cons,List.drop_append,List.drop_eq_nil_of_le (by omega),hx];have e:(i+1)*33-33=i*33:=by omega
  rw[e,List.nil_append,this]
def Es (w:World) (B:Nat) (v:Value) (L:List En):Prop:=∃R,Bi w B R L∧∃A c,v=.slice A L.length c∧L.length≤c∧c≤maxLen∧Rd w 0 B A (R.flatMap Rw.cells)∧KdB w B v.ownBlock 73
section
variable {w w' : World} {B B' : Nat} {v : Value} {L : List En}
theorem Es.below (h:Es w B v L) (hb:Below B w w'):Es w' B v L:=by
 obtain⟨R,h1,A,c,h2,h3,h4,h5,h6⟩:=h;exact ⟨R,h1.below hb,A,c,h2,h3,h4,h5.below hb,h6.below hb⟩
theorem Es.more (h:Es w B v L) (hB:B≤B'):Es w B' v L:=by
 obtain⟨R,h1,A,c,h2,h3,h4,h5,h6⟩:=h;exact ⟨R,h1.more hB,A,c,h2,h3,h4,h5.more hB,h6.more hB⟩
theorem Es.up (h:Es w w.heap.size v L) (hb:Below w.heap.size w w'):Es w' w'.heap.size v L:=(h.below hb).more hb.size
theorem Es.form (h:Es w B v L):∃A c,v=.slice A L.length c∧L.length≤c∧c≤9223372036854775807:=by
 obtain⟨R,_,A,c,h1,h2,h3,_⟩:=h;exact ⟨A,c,h1,h2,by unfold maxLen at h3;exact h3⟩
theorem Es.at_ {A:Option Addr} {n c:Nat} (h:Es w B (.slice A n c) L) {i:Nat} {q:En} (hq:L[i]?=some q):∃g o r,A=some ⟨g,o,none⟩∧g<B∧A4i w B r q∧C4 w ⟨g,o+i*33,none⟩ 33=some r.cells:=by
 obtain⟨R,h1,A',c',h2,h3,h4,h5,_⟩:=h;injection h2 with h2;subst h2;obtain⟨r,hr,hi⟩:=h1.at_ hq;have hl:=D7z h1.ids;have aD:i<R.length:=(List.getElem?_eq_some_iff.1 hr).1;rcases h5 with h5 | ⟨g,o,h6,h7,h8,h9⟩
 ·rw[h5]at hl;simp at hl;omega
 ·have aB:=E5z h1.ids hr;have aA:=Rw.len (h1.ids r (List.mem_of_getElem? hr));refine ⟨g,o,r,h6,h8,hi,T5.2 ⟨aA,fun j u hj=>?_⟩⟩;have aC:j<33:=by have:=(List.getElem?_eq_some_iff.1 hj).1;rw[aA]at this;exact this
  rw[Nat.add_assoc];refine h9 _ _ ?_;rw[←hj,←aB];simp only[List.getElem?_take,List.getElem?_drop,if_pos aC]
end
end
theorem Rw.loadid {w:World} {g:Nat} {t:TypeId} {r:Rw} (K:Bk w g t r.cells) (h:r.id.length=32):C4 w ⟨g,0,none⟩ 32=some (c8 r.id):=by
 rw[K.rowMid 0 32 (by rw[Rw.len h];decide)];simp[Rw.cells,h]
section
variable {P : Program} {ops : Array Oper} {rest : List Oper} {o : Oper} {a : Act} {Q : Exit → Act → World → Prop} {w : World} {base n : Nat} {v : Value} {xs : List Value}
theorem T7 (t e:TypeId) (z:Value) (sz bytes:Nat) (ht:P.underlying t=some (.slice e)) (hinf:(P.info? e).map (fun i=>(i.zero,i.size,i.bytes))=some (some z,sz,bytes)) (hzs:z.cells.size=sz) (hpos:0<sz) (hby:bytes≤1024)
 (hgd:o.guard=none) (s x:Operand) (ho:o.op=.call { callee:=.builtin .append,args:=#[s,x],argTypes:=#[t,t] })
 (hs:a.eval s=v) (hown:w.ownsRow base e sz v n xs) (ys:List Value) (hl:ys.length=sz) (hone:∀u∈ys,u.oneCell'=true) (cs:Array Value) (hcs:cs=ys.toArray) {N:Nat} (hx:a.eval x=.slice (some ⟨N,0,none⟩) 1 1) (hN:w.heap.size=N) (hsz:n+1≤68719476736) (hb:base≤w.heap.size)
 (h:∀A c w',n+1≤c→c≤9223372036854775807→w'.ownsRow base e sz (.slice A (n+1) c) (n+1) (xs++ys)→Below base w w'→w.grownBy w' v.ownBlock→((Value.slice A (n+1) c).ownBlock=v.ownBlock∨(Value.slice A (n+1) c).ownBlock=some (w.heap.size+1))→wpList P ops Q rest (a.put o.dst (.slice A (n+1) c)) w'):wpList P ops Q (o::rest) a (w.alloc (.cells cs e)):=by
 subst hcs hN;have hB:=Bk.new w e ys;have aA:w.grownBy (w.alloc (.cells ys.toArray e)) v.ownBlock:=⟨rfl,rfl,rfl,by simp,fun k hk _=>Below.heap_alloc _ _ _ hk⟩;refine B7p t z bytes ht hinf hzs hpos hby hgd s x ho hs (World.ownsRow.alloc hown (.cells ys.toArray e)) (some ⟨w.heap.size,0,none⟩) 1 1 hx ys (by rw[hl,Nat.one_mul]) 0 (w.alloc (.cells ys.toArray e)).heap.size
  (.inr ⟨w.heap.size,0,rfl,Nat.zero_le _,by simp,fun j u hj=>by rw[Nat.zero_add];exact hB.at_ hj⟩) hone hsz (by simp;omega) ?_
 intro A' c' w' h1 h2 h3 h4 h5 h6;refine h A' c' w' h1 h2 h3 (((Below.refl _ _).alloc hb _).trans h4) (aA.trans h5) ?_;rcases h6 with h6 | h6
 ·exact .inl h6
 ·exact .inr (by simpa using h6)
theorem H6 {T T':TypeId} {base' n' sz sz':Nat} {v':Value} {xs':List Value} (h:w.ownsRow base T sz v n xs) (h':w.ownsRow base' T' sz' v' n' xs') (hT:T≠T'):v.ownBlock=none∨v.ownBlock≠v'.ownBlock:=by
 rcases h.2 with ⟨hv,_⟩ | ⟨g,cap,cur,hv,hg,hh,_⟩
 ·left;simp[hv,Value.ownBlock]
 ·rcases h'.2 with ⟨hv',_⟩ | ⟨g',cap',cur',hv',hg',hh',_⟩
  ·right;simp[hv,hv',Value.ownBlock]
  ·right
   intro e;rw[hv,hv']at e;simp only[Value.ownBlock,Option.some.injEq]at e;subst e;rw[hh]at hh';injection hh' with hh';injection hh' with _ h2;exact hT h2
end
def Ut (w:World) (lo base:Nat) (r:Rw) (q:En):Prop:=r.id=q.1∧q.1.length=32∧0<q.2.length∧(HsT w lo r.s.v q.2∨OwnK w base r.s.v q.2)
def Ck (w:World) (lo base:Nat):List Rw→List En→Prop
 | [],[]=>True
 | r::R,q::L=>Ut w lo base r q∧Ck w lo base R L
 | _,_=>False
section
variable {w w' : World} {lo base : Nat} {v : Value} {R : List Rw} {L : List En} {r : Rw} {q : En}
theorem Ut.rw_ (h:Ut w lo base r q) (hb:lo≤w.heap.size):A4i w w.heap.size r q:=by
 refine ⟨h.1,h.2.1,h.2.2.1,?_⟩;rcases h.2.2.2 with h | h
 ·exact h.more hb
 ·exact ⟨(OwnK.hs h).less (Nat.zero_le _),C2g h.2⟩
theorem Ut.below (h:Ut w lo base r q) (hb:Below w.heap.size w w') (hB:lo≤w.heap.size):Ut w' lo base r q:=by
 refine ⟨h.1,h.2.1,h.2.2.1,?_⟩;rcases h.2.2.2 with h | h
 ·exact .inl (h.below (hb.mono hB))
 ·exact .inr (h.below hb (Nat.le_refl _))
theorem Ut.own {T:TypeId} {sz n:Nat} {v:Value} {xs:List Value} (h:Ut w lo base r q) (hB:Below base w w') (hlo:lo≤base) (ho:w.ownsRow base T sz v n xs) (hT:40≠T) (hg:w.grownBy w' v.ownBlock):Ut w' lo base r q:=by
 refine ⟨h.1,h.2.1,h.2.2.1,?_⟩;rcases h.2.2.2 with h | h
 ·exact .inl (h.below (hB.mono hlo))
 ·exact .inr ⟨h.1,World.ownsRow.kept h.2 hg (H6 h.2 ho hT)⟩
theorem Ck.map {f:∀ {r:Rw} {q:En},Ut w lo base r q→Ut w' lo base r q}:∀ {R:List Rw} {L:List En},Ck w lo base R L→Ck w' lo base R L
 | [],[],_=>trivial
 | _::_,_::_,h=>⟨f h.1,Ck.map (f:=f) h.2⟩
 | [],_::_,h=>h.elim
 | _::_,[],h=>h.elim
theorem Ck.rws (hb:lo≤w.heap.size):∀ {R:List Rw} {L:List En},Ck w lo base R L→Bi w w.heap.size R L
 | [],[],_=>trivial
 | _::_,_::_,h=>⟨h.1.rw_ hb,Ck.rws hb h.2⟩
 | [],_::_,h=>h.elim
 | _::_,[],h=>h.elim
theorem Ck.snoc:∀ {R:List Rw} {L:List En},Ck w lo base R L→Ut w lo base r q→Ck w lo base (R++[r]) (L++[q])
 | [],[],_,h=>⟨h,trivial⟩
 | _::_,_::_,h,h'=>⟨h.1,Ck.snoc h.2 h'⟩
 | [],_::_,h,_=>h.elim
 | _::_,[],h,_=>h.elim
def Kc (w:World) (lo base:Nat) (v:Value) (L:List En):Prop:=lo≤base∧base≤w.heap.size∧∃R,Ck w lo base R L∧w.ownsRow base 73 33 v L.length (R.flatMap Rw.cells)
theorem Kc.nil (w:World) (lo base:Nat) (hl:lo≤base) (hb:base≤w.heap.size):Kc w lo base (.slice none 0 0) []:=⟨hl,hb,[],trivial,World.ownsRow_nil w base _ _⟩
theorem Kc.below (h:Kc w lo base v L) (hb:Below w.heap.size w w'):Kc w' lo base v L:=by
 obtain⟨hl,h0,R,h1,h2⟩:=h;exact ⟨hl,Nat.le_trans h0 hb.size,R,Ck.map (f:=fun h=>h.below hb (Nat.le_trans hl h0)) h1,J7 h2 hb (Nat.le_refl _)⟩
theorem Kc.form (h:Kc w lo base v L):∃A c,v=.slice A L.length c∧L.length≤c∧c≤9223372036854775807:=by
 obtain⟨_,_,R,_,h2⟩:=h;exact F8 h2
theorem Kc.es (h:Kc w lo base v L):Es w w.heap.size v L:=by
 obtain⟨aA,h0,R,h1,h2⟩:=h;have hr:=h1.rws (Nat.le_trans aA h0);have hl:=hr.len;refine ⟨R,hr,?_⟩;rcases h2.2 with ⟨rfl,hn⟩ | ⟨g,cap,cur,rfl,hbg,hh,hr',hm,hsz,ht⟩
 ·rw[hn];have:R=[]:=List.eq_nil_of_length_eq_zero (by omega);subst this;exact ⟨none,0,rfl,Nat.le_refl _,by simp[maxLen],.inl rfl,fun g h=>by cases h⟩
 ·refine ⟨_,cap,rfl,hr',hm,.inr ⟨g,0,rfl,Nat.zero_le _,(Array.getElem?_eq_some_iff.1 hh).1,fun j u hu=>?_⟩,C2g h2⟩;have:=h2.cells (g:=g) rfl j u hu;rwa [P9]at this
theorem Kc.lt (h:Kc w lo base v L) {k:Nat} (hk:v.ownBlock=some k):base≤k∧k<w.heap.size:=by
 obtain⟨_,_,R,_,h2⟩:=h;exact h2.lt k hk
variable {ops : Array Oper} {rest : List Oper} {o : Oper} {a : Act} {Q : Exit → Act → World → Prop}
theorem F0z (hgd:o.guard=none) (s x:Operand) (ho:o.op=.call { callee:=.builtin .append,args:=#[s,x],argTypes:=#[58,58] })
 (hs:a.eval s=v) (hown:Kc w lo base v L) (r:Rw) (q:En) (hp:Ut w lo base r q) (cs:Array Value) (hcs:cs=r.cells.toArray) {N:Nat} (hx:a.eval x=.slice (some ⟨N,0,none⟩) 1 1) (hN:w.heap.size=N) (hsz:L.length≤1000000000)
 (h:∀A c w',L.length+1≤c→c≤9223372036854775807→Kc w' lo base (.slice A (L.length+1) c) (L++[q])→Below base w w'→w.grownBy w' v.ownBlock→((Value.slice A (L.length+1) c).ownBlock=v.ownBlock∨(Value.slice A (L.length+1) c).ownBlock=some (w.heap.size+1))→wpList Tryz.prog ops Q rest (a.put o.dst (.slice A (L.length+1) c)) w'):wpList Tryz.prog ops Q (o::rest) a (w.alloc (.cells cs 73)):=by
 obtain⟨aA,h0,R,h1,h2⟩:=hown;refine T7 58 73 rwz.V 33 56 Tryz.underlying58 D7l (by simp[Rw.V,rwz,Rw.cells,Value.cells]) (by decide) (by decide) hgd s x ho hs h2 r.cells (Rw.len (by rw[hp.1];exact hp.2.1)) r.one cs hcs hx hN (by omega) h0 ?_;intro A c w' g1 g2 g3 g4 g5 g6;refine h A c w' g1 g2 ⟨aA,Nat.le_trans h0 g5.size,R++[r],(Ck.map (f:=fun h=>h.own g4 aA h2 (by decide) g5) h1).snoc (hp.own g4 aA h2 (by decide) g5),?_⟩ g4 g5 g6;rw[List.length_append,List.flatMap_append];simpa using g3
end
theorem B6m {a b:List UInt8} (h:Jy a b=true):Jy b a=false:=by
 cases h2:Jy b a with
 | false=>rfl
 | true=>exact absurd (U6.1 h2) (U6.1 h).asymm
section
def C9l (ds:List Value):Prop:=∀d∈ds,∀x:UInt8,d≠v8 x
theorem E4u {w:World} {lo B g:Nat} {A:Option Addr} {T:TypeId} {cs ds:List Value} {x:UInt8} {b o:Nat} (hk:Bk w g T ds) (hd:C9l ds) (hc:w.cell? ⟨b,o,none⟩=some (v8 x)):b≠g:=fun e=>by
 subst e;unfold Bk at hk;unfold World.cell? at hc;rw[hk]at hc;have hc:ds.toArray[o]?=some (v8 x):=hc;exact hd _ (by have:=Array.mem_of_getElem? hc;simpa using this) x rfl
theorem E1c {w:World} {lo B g o:Nat} {A:Option Addr} {T:TypeId} {cs ds:List Value} {x:UInt8} (h:Rd w lo B A cs) (hx:cs[0]?=some (v8 x)) (hk:Bk w g T ds) (hd:C9l ds) (vs:List Value):Rd (C2 w ⟨g,o,none⟩ vs) lo B A cs:=by
 rcases h with h | ⟨b,of,h1,h2,h3,h4⟩
 ·exact .inl h
 ·have aA:=E4u (lo:=lo) (B:=B) (A:=A) (cs:=cs) hk hd (h4 0 _ hx);exact .inr ⟨b,of,h1,h2,h3,fun j u hj=>by rw[Kg aA];exact h4 j u hj⟩
theorem C7k {l:List UInt8} (h:0<l.length):∃x,(c8 l)[0]?=some (v8 x):=by
 cases l with
 | nil=>simp at h
 | cons a l=>exact ⟨a,rfl⟩
section
variable {w : World} {B g o : Nat} {T : TypeId} {ds vs : List Value}
theorem E0q {v:Value} {ks:List (List UInt8)} (h:Hs w 0 B v ks) (hn:0<ks.length) (hk:Bk w g T ds) (hd:C9l ds):Hs (C2 w ⟨g,o,none⟩ vs) 0 B v ks:=by
 obtain⟨h0,A,c,h1,h2,h3,h4⟩:=h;have hl:=X0 h0;obtain⟨x,hx⟩:=C7k (l:=ks.flatten) (by rw[hl];omega);exact ⟨h0,A,c,h1,h2,h3,E1c h4 hx hk hd vs⟩
end
def BS (w:World) (B:Nat) (v:Value) (gs:List Bool):Prop:=(gs=[]∧v=.slice none 0 0)∨∃g tl c,v=.slice (some ⟨g,0,none⟩) gs.length c∧Bk w g 4 (gs.map Value.bool++tl)∧g<B
theorem BS.below {w w':World} {B:Nat} {v:Value} {gs:List Bool} (h:BS w B v gs) (hb:Below B w w'):BS w' B v gs:=by
 rcases h with h | ⟨g,tl,c,h1,h2,h3⟩
 ·exact .inl h
 ·exact .inr ⟨g,tl,c,h1,h2.below hb h3,h3⟩
theorem BS.more {w:World} {B B':Nat} {v:Value} {gs:List Bool} (h:BS w B v gs) (hb:B≤B'):BS w B' v gs:=by
 rcases h with h | ⟨g,tl,c,h1,h2,h3⟩
 ·exact .inl h
 ·exact .inr ⟨g,tl,c,h1,h2,by omega⟩
theorem A1w {α:Type} (p q:α→Bool):∀(l:List α),(∀x∈l,p x=true→q x=false)→(l.filter p).length+(l.filter q).length≤l.length
 | [],_=>by simp
 | x::l,h=>by
  have ih:=A1w p q l fun y hy=>h y (by simp[hy]);rw[List.filter_cons,List.filter_cons];cases hp:p x with
  | true=>
   rw[h x (by simp) hp];simp;omega
  | false=>
   cases hq:q x<;>simp<;>omega
theorem C4s {L:List En} {id key:List UInt8} (ok:OkE L) (hid:id.length=32):(Cj id key L).length≤L.length+1:=by
 have h:=A1w (fun q:En=>Jy q.1 id) (fun q:En=>Jy id q.1) L fun q _ h=>B6m h;unfold Cj;simp only[List.length_append,List.length_singleton];omega
theorem D2t {L':List En} (ok:OkE L') {id key:List UInt8} (hid:id.length=32) (hkey:key.length=32) {L:List En} {i:Nat} (h:∀x,(lookE L' x).length≤(lookE L x).length+i) (x:List UInt8):(lookE (Cj id key L') x).length≤(lookE L x).length+(i+1):=by
 rw[Co ok hid hkey x];by_cases hx:x=id
 ·rw[if_pos hx,hx];have:=h id;simp;omega
 ·rw[if_neg hx];have:=h x;omega
end
section
structure AV where
 who:Int
 ver:Int
 key:Int
 wrong:Bool
 cut:Bool
def AV.cells (a:AV):List Value:=[.int .i64 a.who,.int .i64 a.ver,.int .i64 a.key,.bool a.wrong,.bool a.cut]
def As (w:World) (B:Nat) (v:Value) (l:List AV):Prop:=∃A c,v=.slice A l.length c∧l.length≤c∧c≤9223372036854775807∧Rd w 0 B A (l.flatMap AV.cells)
theorem aat:∀ {l:List AV} {i:Nat} {a:AV},l[i]?=some a→((l.flatMap AV.cells).drop (i*5)).take 5=a.cells
 | [],i,a,h=>by simp at h
 | x::l,0,a,h=>by
  obtain rfl:x=a:=by simpa using h
  rfl
 | x::l,i+1,a,h=>by
  have:=aat (l:=l) (i:=i) (a:=a) (by simpa using h);rw[List.flatMap_cons,List.drop_append,List.drop_eq_nil_of_le (by simp[AV.cells];omega)];have e:(i+1)*5-x.cells.length=i*5:=by simp[AV.cells];omega
  rw[e,List.nil_append,this]
theorem As.at_ {w:World} {B:Nat} {A:Option Addr} {n c:Nat} {l:List AV} (h:As w B (.slice A n c) l) {i:Nat} {a:AV} (ha:l[i]?=some a):∃g o,A=some ⟨g,o,none⟩∧g<B∧C4 w ⟨g,o+i*5,none⟩ 5=some a.cells:=by
 obtain⟨A',c',h1,h2,h3,h4⟩:=h;injection h1 with h1;subst h1;rcases h4 with h4 | ⟨g,o,h5,h6,h7,h8⟩
 ·have:=aat ha;rw[h4]at this;simp[AV.cells]at this
 ·have aA:=aat ha;refine ⟨g,o,h5,h7,T5.2 ⟨rfl,fun j u hj=>?_⟩⟩;have aB:j<5:=(List.getElem?_eq_some_iff.1 hj).1;rw[Nat.add_assoc];refine h8 _ _ ?_;rw[←hj,←aA];simp only[List.getElem?_take,List.getElem?_drop,if_pos aB]
theorem B9w:Tryz.prog.underlying 78=some (.struct (Q5 Tryz.prog 78)):=by kernel_rfl
theorem B1t:(Tryz.prog.info? 78).map (·.size)=some 5:=by kernel_rfl
theorem D0l:((Tryz.prog.info? 78).bind (·.zero))=some (.agg (AV.cells ⟨0,0,0,false,false⟩).toArray):=by kernel_rfl
section
variable (w : World) (ρ : Operand → Value) (dst : Option Tmp) (ty : TypeId) (pos : String) (after : Array Edge) (guard : Option (Nat × Bool))
theorem C9k:RL' 78 5:=LL' B9w B1t
theorem C5t:RS' 78 5:=SS' B1t
end
theorem B5r (w:World) (raw:Result Next) (a:Addr) (p q r:Int) (b c:Bool) (h:F9 w a 5=true):X5 5 w raw (.pointer (some a)) (.agg #[.int .i64 p,.int .i64 q,.int .i64 r,.bool b,.bool c])=.ok .skip (C2 w a [.int .i64 p,.int .i64 q,.int .i64 r,.bool b,.bool c]):=by
 have e:Value.agg #[.int .i64 p,.int .i64 q,.int .i64 r,.bool b,.bool c]=Value.agg ([.int .i64 p,.int .i64 q,.int .i64 r,.bool b,.bool c]:List Value).toArray:=rfl;rw[e,Me,h];simp[Value.oneCell']
theorem D0r (x:UInt64):IntKind.i64.wrap (E6 (x % 4))=E6 (x % 4):=IntWalk.i64_in _ (by
 unfold E6;have h:=UInt64.toNat_mod x 4;have h4:(4:UInt64).toNat=4:=rfl;rw[h,h4];omega)
def C0p (v:Int):UInt8:=UInt8.ofNat (v % 256).toNat
theorem A1h (v:Int):IntKind.u8.wrap v=n8 (C0p v):=by
 unfold n8 C0p;rw[UInt8.toNat_ofNat'];simp only[IntKind.wrap,IntKind.bits,IntKind.signed,Bool.false_and,Bool.false_eq_true,if_false];omega
def RI (v:Value):Option (DataW Value×List MemPlace):=match v with | .int .i64 _=>some (.held v,[]) | _=>none
theorem D9s {v:Value} {y:DataW Value×List MemPlace} (h:RI v=some y):∃x,v=.int .i64 x:=by
 unfold RI at h;split at h
 ·exact ⟨_,rfl⟩
 ·cases h
theorem Un:Maps.Keyed Tryz.prog 3:=Maps.int_keyed Tryz.underlying3
theorem B2i (x:UInt64):∃kl,keyOf Tryz.prog 3 (.int .i64 (E6 (x % 4)))=some kl:=by
 have h:(x % 4).toNat<4:=by rw[UInt64.toNat_mod];exact Nat.mod_lt _ (by decide)
 unfold E6;match (x % 4).toNat,h with
 | 0,_=>exact ⟨.int .i64 0,by kernel_rfl⟩
 | 1,_=>exact ⟨.int .i64 1,by kernel_rfl⟩
 | 2,_=>exact ⟨.int .i64 2,by kernel_rfl⟩
 | 3,_=>exact ⟨.int .i64 3,by kernel_rfl⟩
def MapC (w:World) (b n:Nat):Prop:=∃D:DataW Value,w.ownsMap Tryz.prog 3 RI b n D
theorem MapC.made (w:World):MapC (w.alloc (.map #[] 0)) w.heap.size 0:=⟨.map [],World.ownsMap_made _ _ _ _⟩
theorem MapC.look {w:World} {b n:Nat} (h:MapC w b n) (x:UInt64):∃y,(Instr.lookup 76 (.map (some b)) (.int .i64 (E6 (x % 4))) false).run Tryz.prog w=.ok (.int .i64 y) w:=by
 obtain⟨D,hD⟩:=h;obtain⟨kl,hk⟩:=B2i x;obtain⟨v,ps,h1,h2⟩:=hD.lookup Un Tryz.underlying76 (z:=.int .i64 0) (by kernel_rfl) (zd:=.held (.int .i64 0)) (zp:=[]) rfl hk;obtain⟨y,rfl⟩:=D9s h2;exact ⟨y,h1⟩
theorem MapC.row {w:World} {b n:Nat} (h:MapC w b n):∀r,some b=some r→∃o:Obj,w.heap[r]?=some o∧o.isCells=false:=by
 obtain⟨D,⟨es,aA,hb,_⟩⟩:=h;intro r e;injection e with e;subst e;exact ⟨_,hb,rfl⟩
theorem MapC.kept {w w':World} {b n:Nat} {row:Option Nat} (h:MapC w b n) (hg:w.grownBy w' row) (hne:some b≠row):MapC w' b n:=by
 obtain⟨D,hD⟩:=h;exact ⟨D,hD.kept hg hne⟩
theorem MapC.below {w w':World} {b n:Nat} (h:MapC w b n) (hb:Below w.heap.size w w'):MapC w' b n:=
 h.kept (row:=none) ⟨hb.os,hb.tape,hb.output,hb.size,fun k hk _=>hb.block k (by omega)⟩ (by simp)
theorem MapC.own {w w':World} {b n base sz k:Nat} {T:TypeId} {v:Value} {xs:List Value} (h:MapC w b n) (ho:w.ownsRow base T sz v k xs) (hg:w.grownBy w' v.ownBlock):MapC w' b n:=by
 refine h.kept hg fun e=>?_;obtain⟨o,h1,h2⟩:=h.row b rfl;rcases ho.2 with ⟨hv,_⟩ | ⟨g,cap,cur,hv,_,hh,_⟩
 ·rw[hv]at e;cases e
 ·rw[hv]at e;injection e with e;subst e;rw[hh]at h1;injection h1 with h1;subst h1;cases h2
theorem Y0 {w:World} {g base sz n:Nat} {T T':TypeId} {cs xs:List Value} {v:Value} (h:Bk w g T cs) (ho:w.ownsRow base T' sz v n xs) (hT:T≠T'):some g≠v.ownBlock:=fun e=>by
 rcases ho.2 with ⟨hv,_⟩ | ⟨g',cap,cur,hv,_,hh,_⟩
 ·rw[hv]at e;cases e
 ·rw[hv]at e;injection e with e;subst e;unfold Bk at h;rw[h]at hh;injection hh with hh;injection hh with _ h2;exact hT h2
def OwnU (w:World) (base:Nat) (v:Value) (us:List UV):Prop:=(∀u∈us,u.Ok)∧w.ownsRow base 69 129 v us.length (us.flatMap N9)
def OwnB (w:World) (base:Nat) (v:Value) (gs:List Bool):Prop:=w.ownsRow base 4 1 v gs.length (gs.map Value.bool)
theorem B0h {w:World} {base sz n:Nat} {T:TypeId} {v:Value} {xs:List Value} (h:w.ownsRow base T sz v n xs):(v=.slice none 0 0∧n=0)∨∃g tl c,v=.slice (some ⟨g,0,none⟩) n c∧Bk w g T (xs++tl)∧g<w.heap.size:=by
 rcases h.2 with h1 | ⟨g,cap,cur,hv,hg,hh,h1,h2,h3,h4⟩
 ·exact .inl h1
 ·refine .inr ⟨g,cur.toList.drop (n*sz),cap,hv,?_,(Array.getElem?_eq_some_iff.1 hh).1⟩;unfold Bk;rw[hh,←h4,List.take_append_drop]
theorem OwnU.us {w:World} {base:Nat} {v:Value} {us:List UV} (h:OwnU w base v us):US w w.heap.size v us:=by
 rcases B0h h.2 with ⟨h1,h2⟩ | ⟨g,tl,c,h1,h2,h3⟩
 ·exact .inl ⟨List.eq_nil_of_length_eq_zero h2,h1⟩
 ·exact .inr ⟨g,tl,c,h1,⟨h.1,h2⟩,h3⟩
theorem OwnB.bs {w:World} {base:Nat} {v:Value} {gs:List Bool} (h:OwnB w base v gs):BS w w.heap.size v gs:=by
 rcases B0h h with ⟨h1,h2⟩ | ⟨g,tl,c,h1,h2,h3⟩
 ·exact .inl ⟨List.eq_nil_of_length_eq_zero h2,h1⟩
 ·exact .inr ⟨g,tl,c,h1,h2,h3⟩
def Lot {α:Type} (F:Value→α→Prop):List Value→List α→Prop
 | [],[]=>True
 | v::vs,x::xs=>F v x∧Lot F vs xs
 | _,_=>False
theorem Lot.mono {α:Type} {F G:Value→α→Prop} (h:∀v x,F v x→G v x):∀ {vs:List Value} {xs:List α},Lot F vs xs→Lot G vs xs
 | [],[],_=>trivial
 | _::_,_::_,hh=>⟨h _ _ hh.1,Lot.mono h hh.2⟩
 | [],_::_,hh=>hh.elim
 | _::_,[],hh=>hh.elim
theorem Lot.snoc {α:Type} {F:Value→α→Prop} {v:Value} {x:α} (h:F v x):∀ {vs:List Value} {xs:List α},Lot F vs xs→Lot F (vs++[v]) (xs++[x])
 | [],[],_=>⟨h,trivial⟩
 | _::_,_::_,hh=>⟨hh.1,Lot.snoc h hh.2⟩
 | [],_::_,hh=>hh.elim
 | _::_,[],hh=>hh.elim
theorem Lot.len {α:Type} {F:Value→α→Prop}:∀ {vs:List Value} {xs:List α},Lot F vs xs→vs.length=xs.length
 | [],[],_=>rfl
 | _::_,_::_,hh=>by simp[Lot.len hh.2]
 | [],_::_,hh=>hh.elim
 | _::_,[],hh=>hh.elim
theorem Lot.at_ {α:Type} {F:Value→α→Prop}:∀ {vs:List Value} {xs:List α},Lot F vs xs→∀ {i:Nat} {x:α},xs[i]?=some x→∃v,vs[i]?=some v∧F v x
 | [],[],_,i,x,h=>by simp at h
 | v::vs,y::xs,hh,0,x,h=>by simp at h;subst h;exact ⟨v,rfl,hh.1⟩
 | v::vs,y::xs,hh,i+1,x,h=>by
  obtain⟨u,h1,h2⟩:=Lot.at_ hh.2 (i:=i) (x:=x) (by simpa using h);exact ⟨u,by simpa using h1,h2⟩
 | [],_::_,hh,_,_,_=>hh.elim
 | _::_,[],hh,_,_,_=>hh.elim
theorem US.grown {w w':World} {B:Nat} {v:Value} {us:List UV} (h:US w B v us) {base sz n:Nat} {T:TypeId} {u:Value} {xs:List Value} (ho:w.ownsRow base T sz u n xs) (hT:69≠T) (hg:w.grownBy w' u.ownBlock):US w' B v us:=by
 rcases h with h | ⟨g,tl,c,h1,h2,h3⟩
 ·exact .inl h
 ·exact .inr ⟨g,tl,c,h1,⟨h2.1,h2.2.grown hg (Y0 h2.2 ho hT)⟩,h3⟩
theorem BS.grown {w w':World} {B:Nat} {v:Value} {us:List Bool} (h:BS w B v us) {base sz n:Nat} {T:TypeId} {u:Value} {xs:List Value} (ho:w.ownsRow base T sz u n xs) (hT:4≠T) (hg:w.grownBy w' u.ownBlock):BS w' B v us:=by
 rcases h with h | ⟨g,tl,c,h1,h2,h3⟩
 ·exact .inl h
 ·exact .inr ⟨g,tl,c,h1,h2.grown hg (Y0 h2 ho hT),h3⟩
def Pub (u:UV):Prop:=∃x:UInt64,u.id=Cy (Pz (x % 4).toUInt8 77)
structure BaI (w wr : World) (M b m : Nat) (ov gv uv bv : Value) (os gs : List Value) (bs : List (List UV)) (us : List UV) : Prop where
 out:wr.ownsRow w.heap.size 36 1 ov os.length os
 good:wr.ownsRow w.heap.size 55 1 gv gs.length gs
 lo:Lot (US wr M) os bs
 lg:Lot (BS wr M) gs (bs.map (·.map signedB))
 uo:OwnU wr M uv us
 bo:OwnB wr M bv (us.map signedB)
 mc:MapC wr b m
 hM:w.heap.size≤M
 hW:M≤wr.heap.size
 below:Below w.heap.size w wr
 pub:∀l∈us::bs,∀u∈l,Pub u
theorem BaI.up {w wr w':World} {M b m:Nat} {ov gv uv bv:Value} {os gs:List Value} {bs:List (List UV)} {us:List UV} (h:BaI w wr M b m ov gv uv bv os gs bs us) (hb:Below wr.heap.size wr w'):BaI w w' M b m ov gv uv bv os gs bs us:=
 ⟨J7 h.out hb (Nat.le_refl _),J7 h.good hb (Nat.le_refl _),h.lo.mono fun _ _ x=>x.below (hb.mono h.hW),h.lg.mono fun _ _ x=>x.below (hb.mono h.hW),⟨h.uo.1,J7 h.uo.2 hb (Nat.le_refl _)⟩,J7 h.bo hb (Nat.le_refl _),h.mc.below hb,h.hM,Nat.le_trans h.hW hb.size,C3 h.below hb h.below.size,h.pub⟩
theorem Mk:(Tryz.prog.info? 69).map (fun i=>(i.zero,i.size,i.bytes))=some (some (Rk (Gk 129)),129,136):=by kernel_rfl
theorem Xp:(Tryz.prog.info? 4).map (fun i=>(i.zero,i.size,i.bytes))=some (some (.bool false),1,1):=by kernel_rfl
theorem A3a:(Tryz.prog.info? 36).map (fun i=>(i.zero,i.size,i.bytes))=some (some (.slice none 0 0),1,24):=by kernel_rfl
theorem A3s:(Tryz.prog.info? 55).map (fun i=>(i.zero,i.size,i.bytes))=some (some (.slice none 0 0),1,24):=by kernel_rfl
@[go_sem ↓ high] theorem F0k (w : World) (ρ : Operand → Value) (dst : Option Tmp) (ty : TypeId) (pos : String) (after : Array Edge) (guard : Option (Nat × Bool)) (x : Operand) :
 (execOp ρ { dst,op:=.buildSlice 36 1 #[(0,x)],type:=ty,pos,after,guard }).run Tryz.prog w=Kv 129 69 w (O9 Tryz.prog ρ { dst,op:=.buildSlice 36 1 #[(0,x)],type:=ty,pos,after,guard } w) (ρ x):=
 Rp w ρ dst ty pos after guard 36 69 129 136 (Rk (Gk 129)) x Tryz.underlying36 Mk (by simp[Rk,N9,Gk,Value.cells]) (by decide) (by decide)
@[go_sem] theorem E3p (n : Nat) (e : TypeId) (w : World) (raw : Result Next) (u : UV) (h : u.length = n) : Kv n e w raw (Rk u) = .ok (.value (.slice (some ⟨w.heap.size, 0, none⟩) 1 1)) (w.alloc (.cells (N9 u).toArray e)) := by
 unfold Rk;rw[Xy,if_pos (by rw[List.size_toArray];exact h)]
theorem UV.sigAt {w:World} {g:Nat} {t:TypeId} {u:UV} (K:Bk w g t (N9 u)) (h:u.Ok) {j:Nat} {x:UInt8} (hx:u.sig[j]?=some x):w.cell? ⟨g,65+j,none⟩=some (.int .u8 (n8 x)):=by
 refine K.at_ ?_;have e:N9 u=(c8 u.id++[.int .i64 u.ver]++c8 u.key)++c8 u.sig:=by simp[N9]
 rw[e,List.getElem?_append_right (by simp[h.id,h.key])];have e2:65+j-(c8 u.id++[Value.int .i64 u.ver]++c8 u.key).length=j:=by simp[h.id,h.key]
 rw[e2];unfold c8;rw[List.getElem?_map,hx];rfl
theorem D3u (x:UInt8):bits BinOp.xor IntKind.u8 (n8 x) 2=n8 (x ^^^ 2):=by
 have h:∀n:Nat,n<256→bits BinOp.xor IntKind.u8 (n:Int) 2=((n ^^^ 2:Nat):Int):=by decide +kernel
 unfold n8;rw[UInt8.toNat_xor];exact h x.toNat x.toNat_lt
def A1n (u:UV) (x:UInt8):UV:=⟨u.id,u.ver,u.key,u.sig.set 1 x⟩
theorem B2w {u:UV} (h:u.Ok) (x:UInt8):(A1n u x).Ok:=⟨h.id,h.key,by simp[A1n,h.sig]⟩
theorem Bk.turn {w:World} {g:Nat} {t:TypeId} {u:UV} (K:Bk w g t (N9 u)) (h:u.Ok) (x:UInt8):Bk (w.setCell ⟨g,66,none⟩ (.int .u8 (n8 x))) g t (N9 (A1n u x)):=by
 have h1:=K.set_ 66 (.int .u8 (n8 x));have e:(N9 u).set 66 (.int .u8 (n8 x))=N9 (A1n u x):=by
  have e1:N9 u=(c8 u.id++[.int .i64 u.ver]++c8 u.key)++c8 u.sig:=by simp[N9]
  have e2:N9 (A1n u x)=(c8 u.id++[.int .i64 u.ver]++c8 u.key)++c8 (u.sig.set 1 x):=by simp[N9,A1n]
  rw[e1,e2,List.set_append_right _ _ (by simp[h.id,h.key]),←Lp];simp[h.id,h.key]
 rw[e]at h1;exact h1
end
section
structure IsTree (t : Tr) (L : List En) : Prop where
 ok:Okt t
 prs:t.pairs=pairsE L
theorem IsTree.uniq {t s:Tr} {L:List En} (h:IsTree t L) (h':IsTree s L):t=s:=Ok.ext_mem h.ok h'.ok fun x=>by rw[h.prs,h'.prs]
theorem DirIs.okE {w:World} {dv:Value} {e:Nat} {L:List En} {N:Nat} (h:DirIs w dv e L N):OkE L:=by
 obtain⟨ap,mv,m,t,h1,h2,h3,h4,h5,h6,h7⟩:=h;exact h4
theorem DirIs.tree {w:World} {dv:Value} {e:Nat} {L:List En} {N:Nat} (h:DirIs w dv e L N):∃t,IsTree t L:=by
 obtain⟨ap,mv,m,t,h1,h2,h3,h4,h5,h6,h7⟩:=h;exact ⟨t,h5,h6⟩
theorem MVN.form2 {w:World} {mv:Value} {m:List UInt8→Option Value} {N:Nat} (h:MVN w mv m N):∃b,mv=.map b:=by
 rcases h.form with h | ⟨b,h⟩
 ·exact ⟨_,h⟩
 ·exact ⟨_,h⟩
theorem DirIs.form {w:World} {dv:Value} {e:Nat} {L:List En} {N:Nat} (h:DirIs w dv e L N):∃ap b,dv=.agg #[.int .i64 (e:Int),.pointer ap,.int .i64 0,.map b]:=by
 obtain⟨ap,mv,m,t,h1,h2,_⟩:=h;obtain⟨b,rfl⟩:=h2.form2;exact ⟨ap,b,h1⟩
section
variable {w : World} {dv : Value} {e N : Nat} {L : List En} {t : Tr}
theorem A3b (h:DirIs w dv e L N) (ht:IsTree t L):Calls Tryz.prog 10 #[dv] w fun x w'=>x=.returned (A8 t.root)∧Below w.heap.size w w':=by
 obtain⟨ap,mv,m,s,rfl,h2,h3,h4,h5,h6,h7⟩:=h;obtain rfl:=ht.uniq ⟨h5,h6⟩;exact C5w t _ _ _ _ w h7
theorem Vo (h:DirIs w dv e L N) (id:List UInt8) (hid:id.length=32) (hks:(lookE L id).length≤1000000):Calls Tryz.prog 21 #[dv,A8 id] w fun x w'=>∃u,x=.returned u∧OwnK w' w.heap.size u (lookE L id)∧Below w.heap.size w w':=by
 obtain⟨ap,mv,m,s,rfl,h2,h3,h4,h5,h6,h7⟩:=h;exact C5u _ ap 0 mv h2.form m (lookE L) id hid (by omega) w h2.mv h3
theorem A6g (h:DirIs w dv e L N) (id:List UInt8) (hid:id.length=32) (hks:(lookE L id).length≤1000000):Calls Tryz.prog 21 #[dv,A8 id] w fun x w'=>∃u,x=.returned u∧(OwnK w' w.heap.size u (lookE L id)∧(lookE L id=[]→u=.slice none 0 0))∧Below w.heap.size w w':=by
 obtain⟨ap,mv,m,s,rfl,h2,h3,h4,h5,h6,h7⟩:=h;exact A6r _ ap 0 mv h2.form m (lookE L) id hid (by omega) w h2.mv h3
end
end
section
noncomputable def u1:UV:=mkU (h1 1) 1 (h1 2)
theorem E5o:u1.Ok:=C9z _ _ (Hi 2)
theorem E0f:u1.key=h1 2:=by unfold u1 mkU;rfl
theorem C3z {t:Tr} {k v:List UInt8} (ht:Okt t) (h:t.pairs=[(k,v)]):t=.lf k v:=by
 cases t with
 | e=>simp[Tr.pairs]at h
 | lf a b=>
  simp only[Tr.pairs,List.cons.injEq,Prod.mk.injEq,and_true]at h;rw[h.1,h.2]
 | nd l r=>
  have h2:(Tr.nd l r).pairs.length=1:=by rw[h];rfl
  rw[←Tr.len_pairs]at h2;have h3:2≤l.len+r.len:=ht.2.1;have e:(Tr.nd l r).len=l.len+r.len:=rfl;omega
theorem B8c:mkU (h1 1) 1 (h1 2)=u1:=by unfold u1;rfl
attribute [irreducible] u1
theorem C9w (w:World) {N:Nat} (hN:w.heap.size=N) {u:UV} (hu:u.Ok):US (w.alloc (Obj.cells (N9 u).toArray 69)) (w.alloc (Obj.cells (N9 u).toArray 69)).heap.size (.slice (some ⟨N,0,none⟩) 1 1) [u]:=by
 subst hN;exact .inr ⟨w.heap.size,[],1,rfl,⟨fun x hx=>(by simp at hx;subst hx;exact hu),by simpa using Bk.new w 69 (N9 u)⟩,by simp⟩
theorem C8v (w:World):(Instr.build 34 #[]).run Tryz.prog w=.ok (.agg #[.int .i64 0,.pointer none,.int .i64 0,.map none]) w:=by kernel_rfl
attribute [local go_sem ↓ high] El Qw
end
end Go.Proofs.YtmllnpokbbabhaaGreat
