/- A part of the proof of DirAnswers. -/
import Derived.Outline
import Derived.Maps.AppendAt
import Derived.Test.YtlegpkdighoflaaGreatPaz
set_option linter.unusedVariables false
set_option linter.unusedSimpArgs false
set_option maxRecDepth 100000
set_option maxHeartbeats 40000000
namespace Go.Proofs.YtlegpkdighoflaaGreat
open Go Go.RowKit Sh
section
def pb (p:Pr):List UInt8:=p.1++p.2
def Jb (p:Pr):Prop:=p.1.length=32∧p.2.length=32
theorem Jb.len {p:Pr} (h:Jb p):(pb p).length=64:=by unfold pb;rw[List.length_append,h.1,h.2]
def Qo (l:List Pr):List UInt8:=(l.map pb).flatten
theorem A7q (l m:List Pr):Qo (l++m)=Qo l++Qo m:=by simp[Qo]
theorem C2y (p:Pr):Qo [p]=pb p:=by simp[Qo]
theorem Yl {l:List Pr} (h:∀p∈l,Jb p):(Qo l).length=l.length*64:=by
 induction l with
 | nil=>rfl
 | cons p l ih=>
  have h1:=ih fun q hq=>h q (by simp[hq]);have h2:=(h p (by simp)).len;simp only[Qo,List.map_cons,List.flatten_cons,List.length_append,List.length_cons]at h1 h2 ⊢;omega
theorem C9n {l:List Pr} (h:∀p∈l,Jb p):∀ {i:Nat} {p:Pr},l[i]?=some p→((Qo l).drop (i*64)).take 64=pb p:=by
 induction l with
 | nil=>intro i p hp;simp at hp
 | cons q l ih=>
  intro i p hp;have h2:=(h q (by simp)).len;cases i with
  | zero=>
   simp at hp;subst hp;simp only[Qo,List.map_cons,List.flatten_cons,Nat.zero_mul,List.drop_zero];rw[←h2,List.take_left]
  | succ i=>
   have:=ih (fun q hq=>h q (by simp[hq])) (i:=i) (p:=p) (by simpa using hp);simp only[Qo,List.map_cons,List.flatten_cons]at this ⊢;rw[show (i+1)*64=(pb q).length+i*64 by omega,←List.drop_drop,List.drop_left];exact this
def Ps (w:World) (lo B:Nat) (v:Value) (l:List Pr):Prop:=(∀p∈l,Jb p)∧∃A c,v=.slice A l.length c∧l.length≤c∧c≤maxLen∧Rd w lo B A (c8 (Qo l))
section
variable {w w' : World} {lo lo' B B' : Nat} {v : Value} {l : List Pr}
theorem Ps.below (h:Ps w lo B v l) (hb:Below B w w'):Ps w' lo B v l:=let ⟨h0,A,c,h1,h2,h3,h4⟩:=h;⟨h0,A,c,h1,h2,h3,h4.below hb⟩
theorem Ps.more (h:Ps w lo B v l) (hB:B≤B'):Ps w lo B' v l:=let ⟨h0,A,c,h1,h2,h3,h4⟩:=h;⟨h0,A,c,h1,h2,h3,h4.more hB⟩
theorem Ps.less (h:Ps w lo B v l) (hB:lo'≤lo):Ps w lo' B v l:=let ⟨h0,A,c,h1,h2,h3,h4⟩:=h;⟨h0,A,c,h1,h2,h3,h4.less hB⟩
theorem Ps.form (h:Ps w lo B v l):∃A c,v=.slice A l.length c∧l.length≤c∧c≤9223372036854775807:=by
 obtain⟨_,A,c,h1,h2,h3,_⟩:=h;exact ⟨A,c,h1,h2,by unfold maxLen at h3;exact h3⟩
theorem Ps.sub (h:Ps w lo B v l):∃g o c,(∀i p,l[i]?=some p→J1 w ⟨g,o+i*64,none⟩ 64=some (c8 (pb p))∧J1 w ⟨g,o+i*64,none⟩ 32=some (c8 p.1)∧J1 w ⟨g,o+i*64+32,none⟩ 32=some (c8 p.2))∧lo≤g∧g<B∧v=.slice (some ⟨g,o,none⟩) l.length c∧l.length≤c∧c≤9223372036854775807∨l=[]:=by
 obtain⟨h0,A,c,h1,h2,h3,h4⟩:=h;rcases Nat.eq_zero_or_pos l.length with h5 | h5
 ·exact ⟨0,0,0,.inr (List.eq_nil_of_length_eq_zero h5)⟩
 ·obtain⟨g,o,rfl,hl,hb,hc⟩:=h4.some (by rw[J0,Yl h0];omega);refine ⟨g,o,c,.inl ⟨fun i p hp=>?_,hl,hb,h1,h2,by unfold maxLen at h3;exact h3⟩⟩;have aE:i<l.length:=(List.getElem?_eq_some_iff.1 hp).1;have aF:=Yl h0;have aD:=C9n h0 hp;have aB:=h0 p (List.mem_of_getElem? hp);have aA:∀j,j<64→(c8 (pb p))[j]?=(c8 (Qo l))[i*64+j]?:=by intro j hj;rw[←aD];simp only[c8,List.getElem?_map,List.getElem?_take,List.getElem?_drop,if_pos hj]
  have hk:∀j,j<32→(c8 (pb p))[j]?=(c8 p.1)[j]?:=by intro j hj;simp only[c8,pb,List.map_append];rw[List.getElem?_append_left (by simp[aB.1];exact hj)]
  have hv:∀j,j<32→(c8 (pb p))[32+j]?=(c8 p.2)[j]?:=by intro j hj;simp only[c8,pb,List.map_append];rw[List.getElem?_append_right (by simp[aB.1])];simp[aB.1]
  refine ⟨Ek.2 ⟨by rw[J0,aB.len],fun j u hj=>?_⟩,Ek.2 ⟨by rw[J0,aB.1],fun j u hj=>?_⟩,Ek.2 ⟨by rw[J0,aB.2],fun j u hj=>?_⟩⟩
  ·have aC:j<64:=by have:=(List.getElem?_eq_some_iff.1 hj).1;rw[J0,aB.len]at this;exact this
   rw[Nat.add_assoc];exact hc _ _ (by rw[←aA j aC];exact hj)
  ·have aC:j<32:=by have:=(List.getElem?_eq_some_iff.1 hj).1;rw[J0,aB.1]at this;exact this
   rw[Nat.add_assoc];exact hc _ _ (by rw[←aA j (by omega),hk j aC];exact hj)
  ·have aC:j<32:=by have:=(List.getElem?_eq_some_iff.1 hj).1;rw[J0,aB.2]at this;exact this
   rw[Nat.add_assoc,Nat.add_assoc];exact hc _ _ (by rw[←aA (32+j) (by omega),hv j aC];exact hj)
end
def Fm (w:World) (base:Nat) (v:Value) (l:List Pr):Prop:=(∀p∈l,Jb p)∧w.ownsRow base 96 64 v l.length (c8 (Qo l))
theorem Fm.nil (w:World) (base:Nat):Fm w base (.slice none 0 0) []:=⟨by simp,World.ownsRow_nil w base _ _⟩
theorem Fm.below {w w':World} {base B:Nat} {v:Value} {l:List Pr} (h:Fm w base v l) (hb:Below B w w') (hB:w.heap.size≤B):Fm w' base v l:=by
 refine ⟨h.1,World.ownsRow.kept (row:=none) h.2 ⟨hb.os,hb.tape,hb.output,hb.size,fun k hk _=>hb.block k (by omega)⟩ ?_⟩;cases hv:v.ownBlock<;>simp
theorem Fm.kept {w w':World} {base:Nat} {v:Value} {l:List Pr} {row:Option Nat} (h:Fm w base v l) (hg:w.grownBy w' row) (hne:v.ownBlock=none∨v.ownBlock≠row):Fm w' base v l:=⟨h.1,World.ownsRow.kept h.2 hg hne⟩
theorem Fm.alloc {w:World} {base:Nat} {v:Value} {l:List Pr} (h:Fm w base v l) (o:Obj):Fm (w.alloc o) base v l:=⟨h.1,World.ownsRow.alloc h.2 o⟩
theorem Fm.drewN {w:World} {base:Nat} {v:Value} {l:List Pr} (h:Fm w base v l) (n:Nat):Fm (w.drewN n) base v l:=h
theorem Fm.ps {w:World} {base:Nat} {v:Value} {l:List Pr} (h:Fm w base v l):Ps w base w.heap.size v l:=by
 refine ⟨h.1,?_⟩;rcases h.2.2 with ⟨rfl,hn⟩ | ⟨g,cap,cur,rfl,hbg,hh,hr,hm,hsz,ht⟩
 ·rw[hn];have:l=[]:=List.eq_nil_of_length_eq_zero hn;subst this;exact ⟨none,0,rfl,Nat.le_refl _,by simp[maxLen],.inl rfl⟩
 ·refine ⟨_,cap,rfl,hr,hm,.inr ⟨g,0,rfl,hbg,(Array.getElem?_eq_some_iff.1 hh).1,fun j u hu=>?_⟩⟩;have:=h.2.cells (g:=g) rfl j u hu;rwa [Am]at this
theorem D2o:(Tryz.prog.info? 96).map (fun i=>(i.zero,i.size,i.bytes))=some (some (A8 (z8 64)),64,64):=by kernel_rfl
theorem D1x:(Tryz.prog.info? 96).map (·.size)=some 64:=by kernel_rfl
theorem D1u:((Tryz.prog.info? 96).bind (·.zero))=some (A8 (z8 64)):=by kernel_rfl
theorem B6b:Tryz.prog.underlying 96=some (.struct (X6 Tryz.prog 96)):=by kernel_rfl
theorem C9m (w:World):(Gj (X6 Tryz.prog 96)).run Tryz.prog w=.ok #[(0,32),(32,32)] w:=by kernel_rfl
def Mq (n:Nat) (t:TypeId) (w:World) (raw:Result Next):Value→Result Next
 | .agg cs=>if cs.size=n then .ok (.value (.slice (some ⟨w.heap.size,0,none⟩) 1 1)) (w.alloc (.cells cs t)) else raw
 | _=>raw
@[go_sem] theorem E3o (n : Nat) (t : TypeId) (w : World) (raw : Result Next) (l : List UInt8) : Mq n t w raw (A8 l) = if l.length = n then .ok (.value (.slice (some ⟨w.heap.size, 0, none⟩) 1 1)) (w.alloc (.cells (c8 l).toArray t)) else raw := by
 have e:Mq n t w raw (A8 l)=if (c8 l).toArray.size=n then .ok (.value (.slice (some ⟨w.heap.size,0,none⟩) 1 1)) (w.alloc (.cells (c8 l).toArray t)) else raw:=rfl;rw[e];simp only[List.size_toArray,J0]
theorem C3x {P:Program} (w:World) (ρ:Operand→Value) (dst:Option Tmp) (ty:TypeId) (pos:String) (after:Array Edge) (guard:Option (Nat×Bool)) (t e n:Nat) (z:Value) (x:Operand)
 (ht:P.underlying t=some (.slice e)) (hi:(P.info? e).map (fun i=>(i.zero,i.size,i.bytes))=some (some z,n,n)) (hz:z.cells.size=n) (hn:n≤16777216) (hp:n≠0) :
 (execOp ρ { dst,op:=.buildSlice t 1 #[(0,x)],type:=ty,pos,after,guard }).run P w=Mq n e w (Q0 P ρ { dst,op:=.buildSlice t 1 #[(0,x)],type:=ty,pos,after,guard } w) (ρ x):=by
 generalize hv:ρ x=v;unfold Mq;split
 ·rename_i cs
  split
  ·rename_i hcs
   cases hq:P.info? e with
   | none=>simp[hq]at hi
   | some i=>
    simp only[hq,Option.map_some,Option.some.injEq,Prod.mk.injEq]at hi;obtain⟨h1,h2,_⟩:=hi;have hf:Instr.fill (fun i=>some (i*n,n)) ((Array.range (1*n)).map (fun j=>z.cells[j % z.cells.size]!)) [(0,Value.agg cs)]=some cs:=by
     have aA:((Array.range (1*n)).map (fun j=>z.cells[j % z.cells.size]!)).size=n:=by simp
     generalize (Array.range (1*n)).map (fun j=>z.cells[j % z.cells.size]!)=m at *;have h3:=Sq (fun i=>some (i*n,n)) [(0,Value.agg cs)] [(0,cs.toList)] m.toList ⟨by simp[hcs],rfl,by simp[hcs,aA],trivial⟩;rw[Array.toArray_toList]at h3;rw[h3];simp[Ib,Bp,hcs,aA,List.drop_eq_nil_of_le]
    have aB:¬ (16777216<n):=by omega
    have hr:(Instr.buildSlice t 1 #[(0,Value.agg cs)]).run P w=.ok (.slice (some ⟨w.heap.size,0,none⟩) 1 1) (w.alloc (.cells cs e)):=by unfold Instr.buildSlice;simp only[Sem.run_bind,run_underlying ht,Result.andThen_ok,sizeOf,typeInfo,Sem.run_pure];simp only[Nat.one_mul]at hf;simp[hq,h2,aB,hp,zeroValue,typeInfo,h1,newRow];rw[hf];rfl
    simp only[execOp,List.map_toArray,List.map_cons,List.map_nil,hv,Sem.run_bind,hr,Result.andThen_ok,Sem.run_pure]
  ·rfl
 ·rfl
section
variable (w : World) (ρ : Operand → Value) (dst : Option Tmp) (ty : TypeId) (pos : String) (after : Array Edge) (guard : Option (Nat × Bool))
@[go_sem ↓ high] theorem D7z:RL' 96 64:=LL' B6b D1x
@[go_sem ↓ high] theorem D3j:RS' 96 64:=SS' D1x
@[go_sem ↓ high] theorem D5e:RA' 96 (c8 (z8 64)).toArray:=fun w ρ dst ty pos after guard=>U6 w ρ dst ty pos after guard 96 (A8 (z8 64)) D1u
@[go_sem ↓ high] theorem D9x:RB' 96:=BX' _
@[go_sem ↓ high] theorem E2e (x : Operand) :
 (execOp ρ { dst,op:=.buildSlice 52 1 #[(0,x)],type:=ty,pos,after,guard }).run Tryz.prog w=Mq 64 96 w (Q0 Tryz.prog ρ { dst,op:=.buildSlice 52 1 #[(0,x)],type:=ty,pos,after,guard } w) (ρ x):=
 C3x w ρ dst ty pos after guard 52 96 64 (A8 (z8 64)) x Tryz.underlying52 D2o (by simp[A8,Value.cells]) (by decide) (by decide)
end
noncomputable def Wk (w:World) (raw:Result Next) (k v:Value):Result Next:=
 match Ec k,Ec v with
 | some k,some v=>if k.length=32∧v.length=32 then .ok (.value (A8 (pb (k,v)))) w else raw
 | _,_=>raw
@[go_sem] theorem D6o (w : World) (raw : Result Next) (k v : List UInt8) (hk : k.length = 32) (hv : v.length = 32) : Wk w raw (A8 k) (A8 v) = .ok (.value (A8 (pb (k, v)))) w := by
 unfold Wk;rw[Ea,Ea];simp[hk,hv]
theorem C1x (k v:List UInt8) (hk:k.length=32) (hv:v.length=32) (w:World):(Instr.build 96 #[(0,A8 k),(1,A8 v)]).run Tryz.prog w=.ok (A8 (pb (k,v))) w:=by
 have hz:(A8 (z8 64)).cells.toList=c8 (z8 64):=rfl;have hl:(c8 (z8 64)).length=64:=by simp
 have h1:=Y6 B6b D1u w (C9m w) #[(0,A8 k),(1,A8 v)] [(0,c8 k),(32,c8 v)] (by
  rw[hz,hl];exact ⟨by simp[hk],rfl,by simp[hk],by simp[hv],rfl,by simp[hv],trivial⟩)
 refine h1.trans (congrArg (fun (cs:List Value)=>Result.ok (Value.agg cs.toArray) w) ?_);rw[hz];simp[Ib,Bp,hk,hv,List.take_append,List.drop_append,List.drop_eq_nil_of_le,List.take_of_length_le,pb,c8]
@[go_sem ↓ high] theorem D3t (w : World) (ρ : Operand → Value) (dst : Option Tmp) (ty : TypeId) (pos : String) (after : Array Edge) (guard : Option (Nat × Bool)) (x y : Operand) :
 (execOp ρ { dst,op:=.build 96 #[(0,x),(1,y)],type:=ty,pos,after,guard }).run Tryz.prog w=Wk w (Q0 Tryz.prog ρ { dst,op:=.build 96 #[(0,x),(1,y)],type:=ty,pos,after,guard } w) (ρ x) (ρ y):=by
 generalize hx:ρ x=a;generalize hy:ρ y=b;unfold Wk;split
 ·rename_i k v h1 h2
  replace h1:=Y9 h1;replace h2:=Y9 h2;split
  ·rename_i h
   refine T6 w ρ dst ty pos after guard _ _ _ ?_;simp only[List.map_toArray,List.map_cons,List.map_nil,hx,hy,h1,h2];exact C1x k v h.1 h.2 w
  ·rfl
 ·rfl
section
variable {w : World} {g : Nat} {t : TypeId} {p : Pr}
theorem Mi (h:Bk w g t (c8 (pb p))) (hp:Jb p):J1 w ⟨g,0,none⟩ 32=some (c8 p.1):=by
 have:=h.rowMid 0 32 (by rw[J0,hp.len];omega);rw[this];simp[pb,c8,hp.1]
theorem Vl (h:Bk w g t (c8 (pb p))) (hp:Jb p):J1 w ⟨g,32,none⟩ 32=some (c8 p.2):=by
 have:=h.rowMid 32 32 (by rw[J0,hp.len];omega);rw[this];simp[pb,c8,hp.1,hp.2,List.take_of_length_le]
theorem A7r (h:Bk w g t (c8 (pb p))) (hp:Jb p):J1 w ⟨g,0,none⟩ 64=some (c8 (pb p)):=by
 have:=h.rows;rwa [J0,hp.len]at this
theorem Bk.fresh (w:World) (t:TypeId) {l m:List UInt8} (h:l.length=m.length):Bk (D8 (w.alloc (.cells (c8 l).toArray t)) ⟨w.heap.size,0,none⟩ (c8 m)) w.heap.size t (c8 m):=(Bk.new w t (c8 l)).puts (by simp[h])
@[go_sem] theorem D6g (w : World) (t : TypeId) (p : Pr) (hp : Jb p) : J1 (D8 (w.alloc (.cells (c8 (z8 64)).toArray t)) ⟨w.heap.size, 0, none⟩ (c8 (pb p))) ⟨w.heap.size, 0, none⟩ 32 = some (c8 p.1) := Mi (Bk.fresh w t (by simp [hp.len])) hp
@[go_sem] theorem D7t (w : World) (t : TypeId) (p : Pr) (hp : Jb p) : J1 (w.alloc (.cells (c8 (pb p)).toArray t)) ⟨w.heap.size, 0, none⟩ 32 = some (c8 p.1) := Mi (Bk.new w t _) hp
@[go_sem] theorem D6d (w : World) (t : TypeId) (p : Pr) (hp : Jb p) : J1 (w.alloc (.cells (c8 (pb p)).toArray t)) ⟨w.heap.size, 32, none⟩ 32 = some (c8 p.2) := Vl (Bk.new w t _) hp
end
section
variable {w : World} {base : Nat} {v : Value} {l : List Pr} {ops : Array Oper} {rest : List Oper} {o : Oper} {a : Act} {Q : Exit → Act → World → Prop}
theorem Fm.form {w:World} {base:Nat} {v:Value} {l:List Pr} (h:Fm w base v l):∃A c,v=.slice A l.length c∧l.length≤c∧c≤9223372036854775807:=h.ps.form
theorem Zd {w w':World} {base:Nat} {v:Value} {l:List Pr} (hown:Fm w base v l) (hg:w.grownBy w' v.ownBlock) (hb:base≤w.heap.size):Below base w w':=
 (Below.refl _ _).grown hg hb fun k hk=>(hown.2.lt k hk).1
theorem C8w (hgd:o.guard=none) (s x:Operand) (ho:o.op=.call { callee:=.builtin .append,args:=#[s,x],argTypes:=#[52,52] })
 (hs:a.eval s=v) (hown:Fm w base v l) (p:Pr) (hp:Jb p) (m:List UInt8) (hm:m=pb p) {N:Nat} (hx:a.eval x=.slice (some ⟨N,0,none⟩) 1 1) (hN:w.heap.size=N) (hsz:l.length≤1099511627776) (hb:base≤w.heap.size)
 (h:∀A c w',(l.length+1)≤c→c≤9223372036854775807→Fm w' base (.slice A (l.length+1) c) (l++[p])→Below base w w'→w.grownBy w' v.ownBlock→((Value.slice A (l.length+1) c).ownBlock=v.ownBlock∨(Value.slice A (l.length+1) c).ownBlock=some w.heap.size∨(Value.slice A (l.length+1) c).ownBlock=some (w.heap.size+1))→wpList Tryz.prog ops Q rest (a.put o.dst (.slice A (l.length+1) c)) w'):wpList Tryz.prog ops Q (o::rest) a (w.alloc (.cells (c8 m).toArray 96)):=
 wpList_plain hgd fun _ hK=>by
  subst hm hN;obtain⟨i0,aD,aE,aF,aG⟩:=info_parts D2o;have hB:=Bk.new w 96 (c8 (pb p));have aB:∀u∈c8 (pb p),u.oneCell'=true:=by intro u hu;obtain⟨x,_,rfl⟩:=List.mem_map.1 hu;rfl
  have aA:=hown.alloc (.cells (c8 (pb p)).toArray 96);obtain⟨v',w',hr,h6,h7,_,h8⟩:=run_append_own_at (P:=Tryz.prog) (w.alloc (.cells (c8 (pb p)).toArray 96)) base 52 o.type 96 i0 (A8 (z8 64)) 64 64 Tryz.underlying52 aD aE aF aG (by simp[A8,Value.cells]) (by decide) v l.length (c8 (Qo l)) aA.2
   ⟨w.heap.size,0,none⟩ 1 1 (c8 (pb p)) (by simp[hp.len]) (fun j u hj=>by rw[Am,Nat.zero_add];exact hB.at_ hj) aB
   (by simp only[maxLen];omega) (by omega) (by simp;omega)
  have h2:Fm w' base v' (l++[p]):=by
   refine ⟨fun q hq=>?_,?_⟩
   ·rcases List.mem_append.1 hq with hq | hq
    ·exact hown.1 q hq
    ·simp at hq;subst hq;exact hp
   ·rw[List.length_append,A7q,C2y];have:c8 (Qo l++pb p)=c8 (Qo l)++c8 (pb p):=by simp[c8]
    rw[this];exact h6
  unfold Oper.wp execOp;simp only[ho,resolve,invoke,builtin,Sem.run_bind,Sem.run_pure,Result.andThen_ok,List.map_toArray,List.map_cons,List.map_nil,hs,hx,hr];obtain⟨A,c,hA,aC,aH⟩:=h2.form;have aI:(l++[p]).length=l.length+1:=by simp
  rw[aI]at hA aC;subst hA;have aJ:w.grownBy (w.alloc (.cells (c8 (pb p)).toArray 96)) v.ownBlock:=⟨rfl,rfl,rfl,by simp,fun k hk _=>Below.heap_alloc _ _ _ hk⟩;have hg:=aJ.trans h7;refine hK _ _ (h A c w' aC aH h2 (Zd hown hg hb) hg ?_);rcases h8 with h8 | h8
  ·exact .inl h8
  ·exact .inr (.inr (by simpa using h8))
end
end
section
theorem B6k:∀(n x y:Nat),x<y→y<2 ^ n→∃j,j<n∧(∀i,j<i→x.testBit i=y.testBit i)∧x.testBit j=false∧y.testBit j=true
 | 0,x,y,h,hy=>by simp at hy;omega
 | n+1,x,y,h,hy=>by
  by_cases hh:x / 2<y / 2
  ·obtain⟨j,h1,h2,h3,h4⟩:=B6k n (x / 2) (y / 2) hh (by rw[Nat.pow_succ]at hy;omega);refine ⟨j+1,by omega,fun i hi=>?_,by rw[Nat.testBit_succ];exact h3,by rw[Nat.testBit_succ];exact h4⟩;obtain⟨i,rfl⟩:∃i',i=i'+1:=⟨i-1,by omega⟩;rw[Nat.testBit_succ,Nat.testBit_succ];exact h2 i (by omega)
  ·have he:x / 2=y / 2:=by omega
   refine ⟨0,by omega,fun i hi=>?_,?_,?_⟩
   ·obtain⟨i,rfl⟩:∃i',i=i'+1:=⟨i-1,by omega⟩;rw[Nat.testBit_succ,Nat.testBit_succ,he]
   ·rw[Nat.testBit_zero];simp;omega
   ·rw[Nat.testBit_zero];simp;omega
theorem Yn {a b:List UInt8} {i:Nat} (hi:i<32) (he:∀j,j<i→g8 a j=g8 b j) (h:g8 a i<g8 b i):klt a b:=by
 obtain⟨j,h1,h2,h3,h4⟩:=B6k 8 (g8 a i).toNat (g8 b i).toNat (UInt8.lt_iff_toNat_lt.1 h) (UInt8.toNat_lt _);refine ⟨8*i+(7-j),by omega,fun m hm=>?_,?_,?_⟩
 ·rw[Fv,Fv];by_cases hmi:m / 8<i
  ·rw[he _ hmi]
  ·rw[show m / 8=i by omega];exact h2 _ (by omega)
 ·rw[Fv,show (8*i+(7-j)) / 8=i by omega,show 7-(8*i+(7-j)) % 8=j by omega];exact h3
 ·rw[Fv,show (8*i+(7-j)) / 8=i by omega,show 7-(8*i+(7-j)) % 8=j by omega];exact h4
open Classical in
noncomputable def Db (a b:List UInt8):Bool:=decide (klt a b)
theorem U1 {a b:List UInt8}:Db a b=true↔klt a b:=by unfold Db;simp
theorem B2g {a b:List UInt8} {i:Nat} (hi:i<32) (he:∀j,j<i→g8 a j=g8 b j) (h:g8 a i≠g8 b i):decide (g8 a i<g8 b i)=Db a b:=by
 by_cases hlt:g8 a i<g8 b i
 ·rw[decide_eq_true hlt,U1.2 (Yn hi he hlt)]
 ·rw[decide_eq_false hlt];have h2:g8 b i<g8 a i:=by rw[UInt8.lt_iff_toNat_lt]at hlt ⊢;have:(g8 a i).toNat≠(g8 b i).toNat:=fun e=>h (UInt8.toNat_inj.1 e);omega
  have h3:=Yn hi (fun j hj=>(he j hj).symm) h2;cases hk:Db a b with
  | false=>rfl
  | true=>exact absurd (U1.1 hk) h3.asymm
theorem B0k {a b:List UInt8} (ha:a.length=32) (hb:b.length=32) (h:∀j,j<32→g8 a j=g8 b j):a=b:=by
 apply List.ext_getElem (by omega);intro i h1 h2;have:=h i (by omega);unfold g8 at this;simpa [h1,h2] using this
theorem B1t (a:List UInt8):Db a a=false:=by
 cases h:Db a a with
 | false=>rfl
 | true=>exact absurd rfl (U1.1 h).ne
noncomputable def D9o (k:List UInt8) (m:List Pr):Bool:=m.any fun q=>!Db q.1 k
noncomputable def E1u (k x:List UInt8) (m:List Pr):List Pr:=(m.filter fun q=>Db q.1 k)++(if D9o k m then [(k,x)] else [])++(m.filter fun q=>Db k q.1)
noncomputable def A9w (k x:List UInt8) (m:List Pr):List Pr:=(m.filter fun q=>Db q.1 k)++[(k,x)]++(m.filter fun q=>Db k q.1)
def C8q (l:List Pr):Prop:=(∀p∈l,p.1.length=32∧p.2.length=32)∧l.Pairwise fun x y=>klt x.1 y.1
section
variable {k x : List UInt8} {m : List Pr} {q : Pr}
theorem E6e (hk:k.length=32) (hx:x.length=32) (h:∀p∈m,p.1.length=32∧p.2.length=32):∀p∈E1u k x m,p.1.length=32∧p.2.length=32:=by
 intro p hp;unfold E1u at hp;simp only[List.mem_append,List.mem_filter]at hp;rcases hp with (hp | hp) | hp
 ·exact h p hp.1
 ·split at hp
  ·simp at hp;subst hp;exact ⟨hk,hx⟩
  ·simp at hp
 ·exact h p hp.1
theorem B8p (hk:k.length=32) (hx:x.length=32) (h:C8q m):C8q (A9w k x m):=by
 constructor
 ·intro p hp;simp only[A9w,List.mem_append,List.mem_filter,List.mem_singleton]at hp;rcases hp with (hp | rfl) | hp
  ·exact h.1 p hp.1
  ·exact ⟨hk,hx⟩
  ·exact h.1 p hp.1
 ·unfold A9w;rw[List.pairwise_append,List.pairwise_append];refine ⟨⟨h.2.filter _,List.pairwise_singleton _ _,fun a ha b hb=>?_⟩,h.2.filter _,fun a ha b hb=>?_⟩
  ·simp at hb;subst hb;exact U1.1 (List.mem_filter.1 ha).2
  ·have aA:=U1.1 (List.mem_filter.1 hb).2;rcases List.mem_append.1 ha with ha | ha
   ·exact (U1.1 (List.mem_filter.1 ha).2).trans aA
   ·simp at ha;subst ha;exact aA
theorem C5i (hk:k.length=32) (h:C8q m) (p:Pr):p∈A9w k x m↔p=(k,x)∨(p∈m∧p.1≠k):=by
 simp only[A9w,List.mem_append,List.mem_filter,List.mem_singleton];constructor
 ·rintro ((⟨h1,h2⟩ | rfl) | ⟨h1,h2⟩)
  ·exact .inr ⟨h1,(U1.1 h2).ne⟩
  ·exact .inl rfl
  ·exact .inr ⟨h1,fun e=>(U1.1 h2).ne e.symm⟩
 ·rintro (rfl | ⟨h1,h2⟩)
  ·exact .inl (.inr rfl)
  ·rcases klt.total (h.1 p h1).1 hk h2 with h3 | h3
   ·exact .inl (.inl ⟨h1,U1.2 h3⟩)
   ·exact .inr ⟨h1,U1.2 h3⟩
end
theorem Ok.rise {t:Tr} {d:Nat} {P:Nat→Bool} (ok:Ok d P t):C8q t.pairs:=⟨fun p hp=>⟨(Ok.keys ok p hp).1,(Ok.keys ok p hp).2.1⟩,ok.sorted⟩
theorem B7v {k x:List UInt8} {t:Tr} {P:Nat→Bool} (hk:k.length=32) (hx:x.length=32) (ok:Ok 0 P t):A9w k x t.pairs=(Jw k x 256 0 t).pairs:=by
 have hi:=Qb k x hk hx 256 0 t P (by omega) (fun i hi=>by omega) ok;refine Uc (B8p hk hx ok.rise).2 hi.sorted fun p=>?_;rw[C5i hk ok.rise,Ik k x hk 256 0 t P (by omega) (fun i hi=>by omega) ok]
end
theorem C2k (a b:List UInt8) (ha:a.length=32) (hb:b.length=32) (w:World) :
 Calls Tryz.prog 55 #[A8 a,A8 b] w fun e w'=>e=.returned (.bool (Db a b))∧Below w.heap.size w w':=by
 go_enter Tryz.func55,Tryz.ntmps55;go_wp2_with fail;obtain⟨w0,aA⟩:=F9 ((w.alloc (.cells (c8 a).toArray 23)).alloc (.cells (c8 b).toArray 23));rw[←aA];have B0:Below w.heap.size w w0:=by rw[aA];exact (Aw _ _).alloc (by simp) _
 have K0:Bk w0 w.heap.size 23 (c8 a):=by rw[aA];exact (Bk.new _ _ _).alloc _
 have V0:Bk w0 (w.heap.size+1) 23 (c8 b):=by rw[aA];have:=Bk.new (w.alloc (.cells (c8 a).toArray 23)) 23 (c8 b);simpa using this
 clear aA;go_loopw [6] (fun t wr=>∃i:Nat,i≤32∧t=.int .i64 (i:Int)∧(∀j,j<i→g8 a j=g8 b j)∧Bk wr w.heap.size 23 (c8 a)∧Bk wr (w.heap.size+1) 23 (c8 b)∧Below w.heap.size w wr) (fun t _=>32-(intOf t).toNat)
 case atStart=>exact ⟨0,by omega,rfl,fun j hj=>by omega,K0,V0,B0⟩
 case round=>
  clear K0 V0 B0;obtain⟨i,hi,rfl,he,K,V,B⟩:=hrel;by_cases hlt:i<32
  ·have ca:wr.cell? ⟨w.heap.size,i,none⟩=some (.int .u8 (n8 (g8 a i))):=K.at_ (Eb (by omega));have cb:wr.cell? ⟨w.heap.size+1,i,none⟩=some (.int .u8 (n8 (g8 b i))):=V.at_ (Eb (by omega));have hl:Hid (g8 a i≠g8 b i→decide (g8 a i<g8 b i)=Db a b):=Lib.hid fun h=>B2g hlt he h;have hs:Hid (g8 a i=g8 b i→∀j,j<i+1→g8 a j=g8 b j):=Lib.hid fun h j hj=>by
    by_cases hji:j<i
    ·exact he j hji
    ·rw[show j=i by omega];exact h
   clear he;generalize g8 a i=x at *;generalize g8 b i=y at *;by_cases hxy:x=y
   ·have aC:(n8 x != n8 y)=false:=by rw[C3y];simp[hxy]
    go_wp2_with fail;go_quiet (fail);go_wp2_with fail;go_round;case rel=>exact ⟨i+1,by omega,by go_num,hs.out hxy,K.drewN nq,V.drewN nq,N7 B nq⟩
    case measure=>simp[intOf];omega
   ·have aC:(n8 x != n8 y)=true:=by rw[C3y];simp[hxy]
    go_wp2_with fail;go_quiet (fail);go_wp2_with fail;go_quiet (fail);go_wp2_with fail;go_ret;refine ⟨?_,N7 (N7 B _) _⟩;rw[←hl.out hxy];have aB:decide (n8 x<n8 y)=decide (x<y):=by
     unfold n8;simp only[UInt8.lt_iff_toNat_lt];simp
    rw[←aB];rfl
  ·obtain rfl:i=32:=by omega
   have aD:a=b:=B0k ha hb he;clear he;have e:((32:Nat):Int)=32:=rfl;rw[e];go_wp2_with fail;go_ret;refine ⟨?_,B⟩;rw[aD,B1t];rfl
theorem Ii {α:Type} {l:List α} {i:Nat} {q:α} (h:l[i]?=some q):l.take (i+1)=l.take i++[q]:=by rw[List.take_add_one,h];rfl
theorem By.of_row {w:World} {g o n:Nat} {l:List UInt8} (h:J1 w ⟨g,o,none⟩ n=some (c8 l)) (hg:g<w.heap.size) (hn:n≤9223372036854775807):By w 0 w.heap.size (.slice (some ⟨g,o,none⟩) n n) l:=by
 obtain⟨h1,h2⟩:=Ek.1 h;rw[J0]at h1;subst h1;exact By.mk_ (Nat.le_refl _) (by unfold maxLen;exact hn) (.inr ⟨g,o,rfl,Nat.zero_le _,hg,fun j u hj=>h2 j u hj⟩)
def A2o (u v:Value):Prop:=∀g,u.ownBlock=some g→v.ownBlock≠some g
theorem A2o.symm {u v:Value} (h:A2o u v):A2o v u:=fun g h1 h2=>h g h2 h1
theorem Fm.apart {w w':World} {base:Nat} {u v:Value} {l:List Pr} (h:Fm w base v l) (ha:A2o u v) (hg:w.grownBy w' u.ownBlock):Fm w' base v l:=by
 refine h.kept hg ?_;cases hv:v.ownBlock with
 | none=>exact .inl rfl
 | some g=>exact .inr fun e=>ha g e.symm hv
theorem Fm.newApart {w:World} {base:Nat} {u u' v:Value} {l:List Pr} (h:Fm w base v l) (ha:A2o u v) (hu:u'.ownBlock=u.ownBlock∨u'.ownBlock=some w.heap.size∨u'.ownBlock=some (w.heap.size+1)):A2o u' v:=fun g h1 h2=>by
 have h3:=(h.2.lt g h2).2;rcases hu with e | e | e
 ·exact ha g (e▸h1) h2
 ·rw[e]at h1;injection h1 with h1;omega
 ·rw[e]at h1;injection h1 with h1;omega
def Nx (b:Bool) (d:Nat) (m:List Pr):List Pr:=m.filter fun q=>P7 q.1 d==b
theorem A2j {b:Bool} {d:Nat} {m:List Pr} {q:Pr} (h:P7 q.1 d=b):Nx b d (m++[q])=Nx b d m++[q]:=by simp[Nx,List.filter_append,h]
theorem B5y {b:Bool} {d:Nat} {m:List Pr} {q:Pr} (h:P7 q.1 d = !b):Nx b d (m++[q])=Nx b d m:=by simp[Nx,List.filter_append,h]
theorem A0e (b:Bool) (d:Nat) (m:List Pr):(Nx b d m).length≤m.length:=List.length_filter_le _ _
theorem C1s {l r:Tr} {d:Nat} {P:Nat→Bool} (ok:Ok d P (.nd l r)):Nx false d (Tr.nd l r).pairs=l.pairs:=by
 unfold Nx;simp only[Tr.pairs,List.filter_append];rw[List.filter_eq_self.2 (fun x hx=>by simp[ok.left x hx]),List.filter_eq_nil_iff.2 (fun x hx=>by simp[ok.right x hx]),List.append_nil]
theorem C5c {l r:Tr} {d:Nat} {P:Nat→Bool} (ok:Ok d P (.nd l r)):Nx true d (Tr.nd l r).pairs=r.pairs:=by
 unfold Nx;simp only[Tr.pairs,List.filter_append];rw[List.filter_eq_nil_iff.2 (fun x hx=>by simp[ok.left x hx]),List.filter_eq_self.2 (fun x hx=>by simp[ok.right x hx]),List.nil_append]
theorem B0a (t:Tr):∀(d:Nat) (di:Int) (P:Nat→Bool) (v:Value) (w:World),di=(d:Int)→Ok d P t→d≤256→t.len≤274877906944→Ps w 0 w.heap.size v t.pairs→
 Calls Tryz.prog 35 #[v,.int .i64 di] w fun e w'=>e=.returned (A8 t.root)∧Below w.heap.size w w':=by
 induction t with
 | e=>
  intro d di P v w aU ok hd aF hv;obtain⟨A,c,aI,aV,bG⟩:=hv.form;subst aI;go_enter Tryz.func35,Tryz.ntmps35;go_wp2_with fail;exact bodyPost_ret (E5 rfl _ _ _ _ _ _ rfl ((Bk.new w _ _).puts (vs:=c8 (z8 32)) (by simp)) Tryz.underlying23 rfl (by simp[P6])) rfl ⟨rfl,C5 (Aw _ _) (Nat.le_refl _) _⟩
 | lf k x=>
  intro d di P v w aU ok hd aF hv;have hk:=ok.1;have hx:=ok.2.1;obtain⟨A,c,aI,aV,bG⟩:=hv.form;have aD:=hv.sub;have e1:(Tr.lf k x).pairs.length=1:=rfl;rw[e1]at aI aV;rw[e1]at aD;subst aI;obtain⟨g,o,c',hs⟩:=aD;rcases hs with ⟨hrow,_,hg,hA,_,_⟩ | hs
  ·injection hA with hA _ hA3;subst hA hA3;have hr:=hrow 0 (k,x) rfl;obtain⟨_,bH,bI⟩:=hr;simp only[Nat.zero_mul,Nat.add_zero]at bH bI;clear hrow;go_enter Tryz.func35,Tryz.ntmps35;go_wp2_with fail;obtain⟨w0,aE⟩:=F9 (w.alloc (Obj.cells (c8 (z8 32)).toArray 23));rw[←aE];have B0:=BA' aE;have R0:=KN' aE;have aW:w0.heap.size=w.heap.size+1:=by rw[aE];simp
   clear aE;have z0:=R0.lt;refine Lp (A:=?A) (fun W=>Below w.heap.size w0 W) [1,2,3,4,5,6,7,8] [0,9,10,11] (by kernel_rfl) (by kernel_rfl) (by kernel_rfl) (by kernel_rfl) rfl rfl (by kernel_rfl) (by kernel_rfl) ?hS (fun W hW=>?h) (fun hS=>?t);case hS=>exact (Below.refl _ _).drew
   case h=>exact Ei
   case t=>
    simp only[Dh,Ul];refine M5 (by rfl) (fun Q' hQ'=>?_);go_wp2;obtain⟨w1,aQ⟩:=F9 ((w0.alloc (Obj.cells #[Value.int IntKind.u8 0] 5)).drew);rw[←aQ];have B1:Below w0.heap.size w0 w1:=by rw[aQ];exact (Aw _ _).drew
    have y0:By w1 0 w1.heap.size (.slice (some ⟨w0.heap.size,0,none⟩) 1 1) [0]:=by rw[aQ];exact (By.build w0 5 (0,0) [0] (by simp)).more (by simp)
    refine hQ' _ _ (B1.mono B0.size) ?_;clear aQ hQ' hS;refine M5 (by rfl) (fun Q' hQ'=>?_);go_wp2;rw[aW]at y0 B1;obtain⟨w2,aR⟩:=F9 (w1.alloc (Obj.cells #[.slice (some ⟨w.heap.size+1,0,none⟩) 1 1,.slice (some ⟨g,o,none⟩) 32 32,.slice (some ⟨g,o+32,none⟩) 32 32] 45));rw[←aR];have zb:=B1.size;have B2:Below (w.heap.size+1) w0 w2:=by rw[aR];exact B1.alloc (by omega) _
    have bJ:Below w.heap.size w w1:=B0.trans (B1.mono (Nat.le_succ _));have yk:By w1 0 w1.heap.size (.slice (some ⟨g,o,none⟩) 32 32) k:=By.of_row ((Q4 bJ hg).trans bH) (by omega) (by omega);have yv:By w1 0 w1.heap.size (.slice (some ⟨g,o+32,none⟩) 32 32) x:=By.of_row ((Q4 bJ hg).trans bI) (by omega) (by omega);have p2:N8 w2 w2.heap.size (.slice (some ⟨w1.heap.size,0,none⟩) 3 3) [[0],k,x]:=by rw[aR];have:=N8.three w1 45 _ _ _ _ _ _ y0 yk yv;simpa using this
    refine hQ' _ _ (B2.mono (Nat.le_succ _)) ?_;clear aR hQ' y0 yk yv;refine M5 (by rfl) (fun Q' hQ'=>?_);go_wp2_with fail;refine (Tn _ [[0],k,x] w2 p2 (by simp[hk,hx])).mono ?_;rintro e w3 ⟨rfl,bK⟩;have cA:=B2.size;have B3:=B2.trans (bK.mono (B':=w.heap.size+1) (by omega));have aA:[[0],k,x].flatten=[0]++k++x:=by simp
    rw[aA];have hl:=Dc ([0]++k++x);have bL:(Tr.lf k x).root=Gd ([0]++k++x):=rfl;have bS:=Lib.hid bL;clear bL;generalize Gd ([0]++k++x)=r at *;clear bK p2 aA;have R3:=R0.below B3 (by omega);have aX:=Gy 32 R3 (by simp);go_wp2_with fail;refine hQ' _ _ (B3.mono (Nat.le_succ _)) ?_;clear hQ';refine M5 (by rfl) (fun Q' hQ'=>?_);go_wp2_with fail;refine hQ' _ _ (C5 (B3.mono (Nat.le_succ _)) (by simp) _) ?_;clear hQ';refine Ic ?_;go_wp2_with fail;refine bodyPost_ret (E5 rfl _ _ _ _ _ _ rfl (R3.puts (vs:=c8 r) (by simp[hl])) Tryz.underlying23 rfl (by simp[P6,hl])) rfl ⟨?_,C5 (B0.trans (B3.mono (Nat.le_succ _))) (by simp) _⟩;rw[bS.out];rfl
  ·cases hs
 | nd l r ihl ihr=>
  intro d di P v w aU ok hd aF hv;have bT:=ok.1;have cB:=ok.2.1;have aJ:(Tr.nd l r).pairs.length=l.len+r.len:=by rw[←Tr.len_pairs];rfl
  have bM:l.len+r.len≤274877906944:=aF;have bN:Hid (Nx false d (Tr.nd l r).pairs=l.pairs):=Lib.hid (C1s ok);have bO:Hid (Nx true d (Tr.nd l r).pairs=r.pairs):=Lib.hid (C5c ok);have aA:Hid ((Tr.nd l r).root=Gd ([1]++l.root++r.root)):=Lib.hid rfl;have aY:=Tr.root_length l;have aZ:=Tr.root_length r;obtain⟨A,c,aI,aV,bG⟩:=hv.form;have aD:=hv.sub;have bA:=hv.1;generalize hL:(Tr.nd l r).pairs=L at *;clear hv hL;subst aI;have cC:2≤L.length:=by omega
  have cD:L.length≤274877906944:=by omega
  clear aJ;have bU:((L.length:Int)==0)=false:=by rw[beq_eq_false_iff_ne];omega
  have bV:((L.length:Int)==1)=false:=by rw[beq_eq_false_iff_ne];omega
  go_enter Tryz.func35,Tryz.ntmps35;go_wp2_with fail;obtain⟨w0,aE⟩:=F9 (w.alloc (Obj.cells (c8 (z8 32)).toArray 23));rw[←aE];have B0:=BA' aE;have R0:=KN' aE;clear aE;have z0:=R0.lt;subst aU;go_loopw [5,6,31] (fun u1 u2 t wr=>∃i:Nat,i≤L.length∧t=.int .i64 (i:Int)∧Fm wr (w.heap.size+1) u1 (Nx false d (L.take i))∧Fm wr (w.heap.size+1) u2 (Nx true d (L.take i))∧A2o u1 u2∧Bk wr w.heap.size 23 (c8 (z8 32))∧Below w.heap.size w wr) (fun _ _ t _=>L.length-(intOf t).toNat)
  case atStart=>exact ⟨0,by omega,rfl,Fm.nil _ _,Fm.nil _ _,(fun g h=>(by cases h)),R0,B0⟩
  case round=>
   clear R0 B0;obtain⟨i,hi,rfl,O1,O2,aK,R,B⟩:=hrel;have z1:=R.lt;by_cases hlt:i<L.length
   ·obtain⟨q,hp⟩:∃p,L[i]?=some p:=⟨_,List.getElem?_eq_getElem hlt⟩;have aC:Jb q:=bA q (List.mem_of_getElem? hp);have bP:=Ii hp;have aL:=A0e false d (L.take i);have aM:=A0e true d (L.take i);have bX:(L.take i).length=i:=by simp;omega
    rw[bX]at aL aM;obtain⟨g,o,c',hs⟩:=aD;rcases hs with ⟨hrow,_,hg,hA,_,_⟩ | hs
    ·injection hA with hA _ hA3;subst hA hA3;have hr:=(hrow i q hp).1;have bY:=(Q4 B hg).trans hr;have aB:Hid (L.take (i+1)=L.take i++[q]):=Lib.hid bP;clear hrow hr hp bP;generalize L.take i=m at *;have bZ:=aC.1;have cE:=aC.2;have aN:=aC.len;obtain⟨W,hW⟩:=F9 (D8 (wr.alloc (Obj.cells (c8 (z8 64)).toArray 96)) ⟨wr.heap.size,0,none⟩ (c8 (pb q)));have aO:Below wr.heap.size wr W:=by rw[hW];exact C5 (Aw _ _) (Nat.le_refl _) _
     have cF:W.heap.size=wr.heap.size+1:=by rw[hW];simp
     have Q1:Bk W wr.heap.size 96 (c8 (pb q)):=by rw[hW];exact Bk.fresh wr _ (by simp[aN])
     have P1:=O1.below aO (Nat.le_refl _);have P2:=O2.below aO (Nat.le_refl _);have R1:=R.below aO z1;have B1:=K9 B aO;clear aO O1 O2 R B;go_wp2_with fail;rw[←hW];clear hW bY;refine (Tv q.1 d bZ bT W).mono ?_;rintro e w2 ⟨rfl,h2⟩;have Q2:=Q1.bl h2;have R2:=R1.bl h2;have S1:=P1.below h2 (Nat.le_refl _);have S2:=P2.below h2 (Nat.le_refl _);have B2:=K9 B1 h2;have z3:w.heap.size+1≤w2.heap.size:=by have:=h2.size;omega
     have cG:=A7r Q2 aC;clear h2 Q1 R1 P1 P2 B1;obtain⟨o1,cH,rfl,_,_⟩:=S1.form;obtain⟨o2,cI,rfl,_,_⟩:=S2.form;cases hb:P7 q.1 d
     ·have e1:=A2j (m:=m) hb;have e2:=B5y (b:=true) (m:=m) hb;simp only[Nc];go_wp2_with (at_builtin;refine C8w rfl _ _ rfl rfl S1 q aC _ rfl rfl rfl (by omega) z3 ?_;intro A3 c3 w3 bB bC bD aP bE aG);go_roundw;case rel=>exact ⟨i+1,by omega,by go_num,by rw[aB.out,e1];exact bD,by rw[aB.out,e2];exact S2.apart aK bE,S2.newApart aK aG,R2.below aP (by omega),B2.trans (aP.mono (Nat.le_succ _))⟩
      case measure=>simp[intOf];omega
     ·have e1:=B5y (b:=false) (m:=m) hb;have e2:=A2j (m:=m) hb;simp only[Nc];go_wp2_with (at_builtin;refine C8w rfl _ _ rfl rfl S2 q aC _ rfl rfl rfl (by omega) z3 ?_;intro A3 c3 w3 bB bC bD aP bE aG);go_roundw;case rel=>exact ⟨i+1,by omega,by go_num,by rw[aB.out,e1];exact S1.apart aK.symm bE,by rw[aB.out,e2];exact bD,(S1.newApart aK.symm aG).symm,R2.below aP (by omega),B2.trans (aP.mono (Nat.le_succ _))⟩
      case measure=>simp[intOf];omega
    ·subst hs;simp at hlt
   ·obtain rfl:i=L.length:=by omega
    rw[List.take_length]at O1 O2;rw[bN.out]at O1;rw[bO.out]at O2;clear aD bN bO aK;go_wp2_with fail;refine (ihl (d+1) _ _ _ wr (by push_cast;rfl) ok.2.2.1 (by omega) (by omega) (O1.ps.less (Nat.zero_le _))).mono ?_;rintro e w2 ⟨rfl,h2⟩;have P2:=O2.below h2 (Nat.le_refl _);have R2:=R.bl h2;have B2:=K9 B h2;clear h2 O1 O2 R B;go_wp2_with fail;refine (ihr (d+1) _ _ _ w2 (by push_cast;rfl) ok.2.2.2 (by omega) (by omega) (P2.ps.less (Nat.zero_le _))).mono ?_;rintro e w3 ⟨rfl,h3⟩;have R3:=R2.bl h3;have B3:=K9 B2 h3;clear h3 P2 R2 B2 z1;have z1:=R3.lt;generalize l.root=rl at *;generalize r.root=rr at *;go_wp2_with fail;obtain⟨w4,aH⟩:=F9 (D8 (D8 ((w3.alloc (Obj.cells (c8 (z8 32)).toArray 23)).alloc (Obj.cells (c8 (z8 32)).toArray 23)) ⟨w3.heap.size,0,none⟩ (c8 rl)) ⟨w3.heap.size+1,0,none⟩ (c8 rr));rw[←aH];have B4:Below w.heap.size w w4:=by rw[aH];have:=B3.size;exact C5 (C5 ((B3.alloc B3.size _).alloc (by simp;omega) _) (by exact B3.size) _) (by simp;omega) _
    have K4:Bk w4 w3.heap.size 23 (c8 rl):=by rw[aH];exact (((Bk.new w3 _ _).alloc _).puts (by simp[aY])).putFar (by simp) _
    have V4:Bk w4 (w3.heap.size+1) 23 (c8 rr):=by rw[aH];have:=(Bk.new (w3.alloc (Obj.cells (c8 (z8 32)).toArray 23)) 23 (c8 (z8 32))).putFar (p:=⟨w3.heap.size,0,none⟩) (by simp) (c8 rl);exact Bk.puts (by simpa using this) (by simp[aZ])
    have R4:Bk w4 w.heap.size 23 (c8 (z8 32)):=by rw[aH];exact (((R3.alloc _).alloc _).putFar (by simp;omega) _).putFar (by simp;omega) _
    have zv:=V4.lt;have aW:w4.heap.size=w3.heap.size+1+1:=by rw[aH];simp
    generalize w3.heap.size=gb at *;clear aH B3 R3;refine Lp (A:=?A2) (fun W=>Below w.heap.size w4 W) [1,2] [0,3,4,5] (by kernel_rfl) (by kernel_rfl) (by kernel_rfl) (by kernel_rfl) rfl rfl (by kernel_rfl) (by kernel_rfl) ?hS (fun W hW=>?h) (fun hS=>?t);case hS=>exact (Below.refl _ _).drew
    case h=>exact Ei
    case t=>
     simp only[Dh,Ul];clear aW;refine M5 (by rfl) (fun Q' hQ'=>?_);go_wp2;obtain⟨w5,aS⟩:=F9 ((w4.alloc (Obj.cells #[Value.int IntKind.u8 1] 5)).drew);rw[←aS];have B5:Below w4.heap.size w4 w5:=by rw[aS];exact (Aw _ _).drew
     have y0:By w5 0 w5.heap.size (.slice (some ⟨w4.heap.size,0,none⟩) 1 1) [1]:=by rw[aS];exact (By.build w4 5 (0,0) [1] (by simp)).more (by simp)
     refine hQ' _ _ (B5.mono B4.size) ?_;clear aS hQ' hS;refine M5 (by rfl) (fun Q' hQ'=>?_);go_wp2;obtain⟨w6,aT⟩:=F9 (w5.alloc (Obj.cells #[.slice (some ⟨w4.heap.size,0,none⟩) 1 1,.slice (some ⟨gb,0,none⟩) 32 32,.slice (some ⟨gb+1,0,none⟩) 32 32] 45));rw[←aT];have B6:Below w4.heap.size w4 w6:=by rw[aT];exact B5.alloc B5.size _
     have yk:By w5 0 w5.heap.size (.slice (some ⟨gb,0,none⟩) 32 32) rl:=(K4.below B5 (by omega)).whole 32 aY (by omega);have yv:By w5 0 w5.heap.size (.slice (some ⟨gb+1,0,none⟩) 32 32) rr:=(V4.below B5 (by omega)).whole 32 aZ (by omega);have p6:N8 w6 w6.heap.size (.slice (some ⟨w5.heap.size,0,none⟩) 3 3) [[1],rl,rr]:=by rw[aT];have:=N8.three w5 45 _ _ _ _ _ _ y0 yk yv;simpa using this
     refine hQ' _ _ (B6.mono B4.size) ?_;clear aT hQ' y0 yk yv;refine M5 (by rfl) (fun Q' hQ'=>?_);go_wp2_with fail;refine (Tn _ [[1],rl,rr] w6 p6 (by simp[aY,aZ])).mono ?_;rintro e w7 ⟨rfl,bQ⟩;have B7:=K9 B6 bQ;have bR:[[1],rl,rr].flatten=[1]++rl++rr:=by simp
     rw[bR];have bF:=Dc ([1]++rl++rr);rw[←aA.out]at bF ⊢;clear bQ p6 bR;have R7:=R4.below B7 (by omega);have aX:=Gy 32 R7 (by simp);generalize hX:(Tr.nd l r).root=rt at *;have HX:=Lib.hid hX;clear hX;go_wp2_with fail;refine hQ' _ _ (B7.mono B4.size) ?_;clear hQ';refine M5 (by rfl) (fun Q' hQ'=>?_);go_wp2_with fail;refine hQ' _ _ (C5 (B7.mono B4.size) (by simp) _) ?_;clear hQ';refine Ic ?_;go_wp2_with fail;refine bodyPost_ret (E5 rfl _ _ _ _ _ _ rfl (R7.puts (vs:=c8 rt) (by simp[bF])) Tryz.underlying23 rfl (by simp[P6,bF])) rfl ⟨?_,C5 (E3 B4 B7 B4.size) (by simp) _⟩;first | rfl | (rw[HX.out];rfl)
section
def P0:Nat→Bool:=fun _=>false
def Okt (t:Tr):Prop:=Ok 0 P0 t
def A0q (t:Tr) (k v:List UInt8):Tr:=Jw k v 256 0 t
def E9v (l:List Pr) (t:Tr):Tr:=l.foldl (fun t p=>A0q t p.1 p.2) t
section
variable {t : Tr} {k v : List UInt8}
theorem Okt.put (ok:Okt t) (hk:k.length=32) (hv:v.length=32):Okt (A0q t k v):=Qb k v hk hv 256 0 t P0 (by omega) (fun i hi=>by omega) ok
theorem E4c (ok:Okt t) (hk:k.length=32) (x:Pr):x∈(A0q t k v).pairs↔x=(k,v)∨(x∈t.pairs∧x.1≠k):=Ik k v hk 256 0 t P0 (by omega) (fun i hi=>by omega) ok x
theorem C4n (ok:Okt t) (hk:k.length=32):(A0q t k v).len≤t.len+1:=by
 unfold A0q;rw[Dj k v hk 256 0 t P0 (by omega) (fun i hi=>by omega) ok];split<;>omega
theorem Okt.nil:Okt .e:=trivial
end
end
section
section
variable {w : World} {base : Nat} {v : Value} {e : TypeId} {sz n : Nat} {xs : List Value}
theorem Cj (h:w.ownsRow base e sz v n xs):∃A c,v=.slice A n c∧n≤c∧c≤9223372036854775807:=by
 rcases h.2 with ⟨rfl,rfl⟩ | ⟨g,cap,cur,rfl,_,_,h1,h2,_⟩
 ·exact ⟨none,0,rfl,Nat.le_refl _,by omega⟩
 ·exact ⟨_,cap,rfl,h1,by unfold maxLen at h2;exact h2⟩
theorem Du {w':World} {B:Nat} (h:w.ownsRow base e sz v n xs) (hb:Below B w w') (hB:w.heap.size≤B):w'.ownsRow base e sz v n xs:=by
 refine World.ownsRow.kept (row:=none) h ⟨hb.os,hb.tape,hb.output,hb.size,fun k hk _=>hb.block k (by omega)⟩ ?_;cases hv:v.ownBlock<;>simp
theorem Vq {base':Nat} (h:w.ownsRow base e sz v n xs) (hb:base'≤base):w.ownsRow base' e sz v n xs:=by
 refine ⟨h.1,?_⟩;rcases h.2 with h2 | ⟨g,cap,cur,hv,hg,r⟩
 ·exact .inl h2
 ·exact .inr ⟨g,cap,cur,hv,by omega,r⟩
theorem B2l {n' c:Nat} {A:Option Addr} (h:w.ownsRow base e sz (.slice A n' c) n xs):Rd w base w.heap.size A xs:=by
 rcases h.2 with ⟨hv,hn⟩ | ⟨g,cap,cur,hv,hbg,hh,_⟩
 ·subst hn;exact .inl (List.eq_nil_of_length_eq_zero (by rw[h.1,Nat.zero_mul]))
 ·have hA:A=Option.some ⟨g,0,none⟩:=by injection hv
  subst hA;refine .inr ⟨g,0,rfl,hbg,(Array.getElem?_eq_some_iff.1 hh).1,fun j u hu=>?_⟩;have:=h.cells (g:=g) rfl j u hu;rwa [Am]at this
variable {P : Program} {ops : Array Oper} {rest : List Oper} {o : Oper} {a : Act} {Q : Exit → Act → World → Prop}
theorem B7y (t:TypeId) (z:Value) (bytes:Nat) (ht:P.underlying t=some (.slice e)) (hinf:(P.info? e).map (fun i=>(i.zero,i.size,i.bytes))=some (some z,sz,bytes)) (hzs:z.cells.size=sz) (hpos:0<sz) (hby:bytes≤1024)
 (hgd:o.guard=none) (s x:Operand) (ho:o.op=.call { callee:=.builtin .append,args:=#[s,x],argTypes:=#[t,t] })
 (hs:a.eval s=v) (hown:w.ownsRow base e sz v n xs) (A:Option Addr) (m c:Nat) (hx:a.eval x=.slice A m c) (ys:List Value) (hl:ys.length=m*sz) (lo B:Nat) (hrd:Rd w lo B A ys) (hone:∀u∈ys,u.oneCell'=true) (hsz:n+m≤68719476736) (hb:base≤w.heap.size)
 (h:∀A' c' w',n+m≤c'→c'≤9223372036854775807→w'.ownsRow base e sz (.slice A' (n+m) c') (n+m) (xs++ys)→Below base w w'→w.grownBy w' v.ownBlock→((Value.slice A' (n+m) c').ownBlock=v.ownBlock∨(Value.slice A' (n+m) c').ownBlock=some w.heap.size)→wpList P ops Q rest (a.put o.dst (.slice A' (n+m) c')) w'):wpList P ops Q (o::rest) a w:=
 wpList_plain hgd fun _ hK=>by
  obtain⟨i0,aC,aD,aE,aF⟩:=info_parts hinf;have aB:(n+m)*bytes≤140737488355328:=by
   have:=Nat.mul_le_mul hsz hby;omega
  have aG:∃v' w',(Builtin.append_ #[t,t] o.type #[v,.slice A m c]).run P w=.ok v' w'∧w'.ownsRow base e sz v' (n+m) (xs++ys)∧w.grownBy w' v.ownBlock∧(v'.ownBlock=v.ownBlock∨v'.ownBlock=some w.heap.size):=by
   have aA:∀ad:Addr,(∀j u,ys[j]?=some u→w.cell? (ad.add j)=some u)→∃v' w',(Builtin.append_ #[t,t] o.type #[v,.slice (some ad) m c]).run P w=.ok v' w'∧w'.ownsRow base e sz v' (n+m) (xs++ys)∧w.grownBy w' v.ownBlock∧(v'.ownBlock=v.ownBlock∨v'.ownBlock=some w.heap.size):=by intro ad hc;obtain⟨v',w',h5,h6,h7,_,h8⟩:=run_append_own_at (P:=P) w base t o.type e i0 z sz bytes ht aC aD aE aF hzs hpos v n xs hown ad m c ys hl hc hone (by simp only[maxLen];omega) aB hb;exact ⟨v',w',h5,h6,h7,h8⟩
   rcases hrd with hy | ⟨g,of,rfl,_,_,hc⟩
   ·subst hy;have hm:m=0:=by
     have h0:m*sz=0:=by rw[←hl];rfl
     rcases Nat.mul_eq_zero.1 h0 with h | h
     ·exact h
     ·omega
    subst hm;cases A with
    | some ad=>exact aA ad (by simp)
    | none=>exact ⟨v,w,Pj w base _ o.type _ i0 sz ht aC v _ _ hown c,by simpa using hown,World.grownBy.refl w _,.inl rfl⟩
   ·exact aA ⟨g,of,none⟩ (fun j u hj=>by rw[Am];exact hc j u hj)
  obtain⟨v',w',hr,h2,h3,h4⟩:=aG;unfold Oper.wp execOp;simp only[ho,resolve,invoke,builtin,Sem.run_bind,Sem.run_pure,Result.andThen_ok,List.map_toArray,List.map_cons,List.map_nil,hs,hx,hr];obtain⟨A',c',rfl,aH,aI⟩:=Cj h2;exact hK _ _ (h A' c' w' aH aI h2 ((Below.refl _ _).grown h3 hb fun k hk=>(hown.lt k hk).1) h3 h4)
end
theorem Xa {P:Program} (w:World) (ρ:Operand→Value) (dst:Option Tmp) (ty:TypeId) (pos:String) (after:Array Edge) (guard:Option (Nat×Bool)) (t e n by_:Nat) (z:Value) (x:Operand)
 (ht:P.underlying t=some (.slice e)) (hi:(P.info? e).map (fun i=>(i.zero,i.size,i.bytes))=some (some z,n,by_)) (hz:z.cells.size=n) (hn:n≤16777216) (hp:n≠0) :
 (execOp ρ { dst,op:=.buildSlice t 1 #[(0,x)],type:=ty,pos,after,guard }).run P w=Mq n e w (Q0 P ρ { dst,op:=.buildSlice t 1 #[(0,x)],type:=ty,pos,after,guard } w) (ρ x):=by
 generalize hv:ρ x=v;unfold Mq;split
 ·rename_i cs
  split
  ·rename_i hcs
   cases hq:P.info? e with
   | none=>simp[hq]at hi
   | some i=>
    simp only[hq,Option.map_some,Option.some.injEq,Prod.mk.injEq]at hi;obtain⟨h1,h2,_⟩:=hi;have hf:Instr.fill (fun i=>some (i*n,n)) ((Array.range (1*n)).map (fun j=>z.cells[j % z.cells.size]!)) [(0,Value.agg cs)]=some cs:=by
     have aA:((Array.range (1*n)).map (fun j=>z.cells[j % z.cells.size]!)).size=n:=by simp
     generalize (Array.range (1*n)).map (fun j=>z.cells[j % z.cells.size]!)=m at *;have h3:=Sq (fun i=>some (i*n,n)) [(0,Value.agg cs)] [(0,cs.toList)] m.toList ⟨by simp[hcs],rfl,by simp[hcs,aA],trivial⟩;rw[Array.toArray_toList]at h3;rw[h3];simp[Ib,Bp,hcs,aA,List.drop_eq_nil_of_le]
    have aB:¬ (16777216<n):=by omega
    have hr:(Instr.buildSlice t 1 #[(0,Value.agg cs)]).run P w=.ok (.slice (some ⟨w.heap.size,0,none⟩) 1 1) (w.alloc (.cells cs e)):=by unfold Instr.buildSlice;simp only[Sem.run_bind,run_underlying ht,Result.andThen_ok,sizeOf,typeInfo,Sem.run_pure];simp only[Nat.one_mul]at hf;simp[hq,h2,aB,hp,zeroValue,typeInfo,h1,newRow];rw[hf];rfl
    simp only[execOp,List.map_toArray,List.map_cons,List.map_nil,hv,Sem.run_bind,hr,Result.andThen_ok,Sem.run_pure]
  ·rfl
 ·rfl
def Hs (w:World) (lo B:Nat) (v:Value) (l:List (List UInt8)):Prop:=(∀k∈l,k.length=32)∧∃A c,v=.slice A l.length c∧l.length≤c∧c≤maxLen∧Rd w lo B A (c8 l.flatten)
section
variable {w w' : World} {lo lo' B B' : Nat} {v : Value} {l : List (List UInt8)}
theorem Hs.below (h:Hs w lo B v l) (hb:Below B w w'):Hs w' lo B v l:=let ⟨h0,A,c,h1,h2,h3,h4⟩:=h;⟨h0,A,c,h1,h2,h3,h4.below hb⟩
theorem Hs.more (h:Hs w lo B v l) (hB:B≤B'):Hs w lo B' v l:=let ⟨h0,A,c,h1,h2,h3,h4⟩:=h;⟨h0,A,c,h1,h2,h3,h4.more hB⟩
theorem Hs.form (h:Hs w lo B v l):∃A c,v=.slice A l.length c∧l.length≤c∧c≤9223372036854775807:=by
 obtain⟨_,A,c,h1,h2,h3,_⟩:=h;exact ⟨A,c,h1,h2,by unfold maxLen at h3;exact h3⟩
theorem Bt {l:List (List UInt8)} (h:∀k∈l,k.length=32):l.flatten.length=l.length*32:=by
 induction l with
 | nil=>rfl
 | cons k l ih=>
  have h1:=ih fun q hq=>h q (by simp[hq]);have h2:=h k (by simp);simp only[List.flatten_cons,List.length_append,List.length_cons]at h1 ⊢;omega
theorem B0l {l:List (List UInt8)} (h:∀k∈l,k.length=32):∀ {i:Nat} {k:List UInt8},l[i]?=some k→(l.flatten.drop (i*32)).take 32=k:=by
 induction l with
 | nil=>intro i p hp;simp at hp
 | cons q l ih=>
  intro i p hp;have h2:=h q (by simp);cases i with
  | zero=>
   simp at hp;subst hp;simp only[List.flatten_cons,Nat.zero_mul,List.drop_zero];rw[←h2,List.take_left]
  | succ i=>
   have:=ih (fun q hq=>h q (by simp[hq])) (i:=i) (k:=p) (by simpa using hp);simp only[List.flatten_cons];rw[show (i+1)*32=q.length+i*32 by omega,←List.drop_drop,List.drop_left];exact this
theorem Hs.row (h:Hs w lo B v l):∃g o c,(∀i k,l[i]?=some k→J1 w ⟨g,o+i*32,none⟩ 32=some (c8 k))∧lo≤g∧g<B∧v=.slice (some ⟨g,o,none⟩) l.length c∧l.length≤c∧c≤9223372036854775807∨l=[]:=by
 obtain⟨h0,A,c,h1,h2,h3,h4⟩:=h;rcases Nat.eq_zero_or_pos l.length with h5 | h5
 ·exact ⟨0,0,0,.inr (List.eq_nil_of_length_eq_zero h5)⟩
 ·obtain⟨g,o,rfl,hl,hb,hc⟩:=h4.some (by rw[J0,Bt h0];omega);refine ⟨g,o,c,.inl ⟨fun i k hk=>?_,hl,hb,h1,h2,by unfold maxLen at h3;exact h3⟩⟩;have aB:=B0l h0 hk;have aA:=h0 k (List.mem_of_getElem? hk);refine Ek.2 ⟨by rw[J0,aA],fun j u hj=>?_⟩;have aC:j<32:=by have:=(List.getElem?_eq_some_iff.1 hj).1;rw[J0,aA]at this;exact this
  rw[Nat.add_assoc];refine hc _ _ ?_;rw[←hj,←aB];simp only[c8,List.getElem?_map,List.getElem?_take,List.getElem?_drop,if_pos aC]
end
@[go_sem] theorem A3v (n : Nat) (t : TypeId) (w : World) (raw : Result Next) (cs : Array Value) : Mq n t w raw (.agg cs) = if cs.size = n then .ok (.value (.slice (some ⟨w.heap.size, 0, none⟩) 1 1)) (w.alloc (.cells cs t)) else raw := rfl
theorem Xy:(Tryz.prog.info? 23).map (fun i=>(i.zero,i.size,i.bytes))=some (some (A8 (z8 32)),32,32):=by kernel_rfl
theorem D3e {e t n b:Nat} {z:Value} (ht:Tryz.prog.underlying t=some (.slice e)) (hi:(Tryz.prog.info? e).map (fun i=>(i.zero,i.size,i.bytes))=some (some z,n,b)) (hz:z.cells.size=n) (hn:n≤16777216) (hp:n≠0)
 (w:World) (ρ:Operand→Value) (dst:Option Tmp) (ty:TypeId) (pos:String) (after:Array Edge) (guard:Option (Nat×Bool)) (x:Operand) :
 (execOp ρ { dst,op:=.buildSlice t 1 #[(0,x)],type:=ty,pos,after,guard }).run Tryz.prog w=Mq n e w (Q0 Tryz.prog ρ { dst,op:=.buildSlice t 1 #[(0,x)],type:=ty,pos,after,guard } w) (ρ x):=Xa w ρ dst ty pos after guard t e n b z x ht hi hz hn hp
@[go_sem ↓ high] theorem E6k (w : World) (ρ : Operand → Value) (dst : Option Tmp) (ty : TypeId) (pos : String) (after : Array Edge) (guard : Option (Nat × Bool)) (x : Operand) :
 (execOp ρ { dst,op:=.buildSlice 42 1 #[(0,x)],type:=ty,pos,after,guard }).run Tryz.prog w=Mq 32 23 w (Q0 Tryz.prog ρ { dst,op:=.buildSlice 42 1 #[(0,x)],type:=ty,pos,after,guard } w) (ρ x):=
 D3e Tryz.underlying42 Xy (by simp[A8,Value.cells]) (by decide) (by decide) w ρ dst ty pos after guard x
end
end Go.Proofs.YtlegpkdighoflaaGreat
