/- A part of the proof of AuditBatch. -/
import Derived.Outline
import Derived.Maps.AppendAt
import Derived.Test.YtdfpoofbgjilgaaGreatUat
set_option linter.unusedVariables false
set_option linter.unusedSimpArgs false
set_option maxRecDepth 100000
set_option maxHeartbeats 40000000
namespace Go.Proofs.YtdfpoofbgjilgaaGreat
open Go Go.RowKit Sh
section
def pb (p:Pr):List UInt8:=p.1++p.2
def Xu (p:Pr):Prop:=p.1.length=32∧p.2.length=32
theorem Xu.len {p:Pr} (h:Xu p):(pb p).length=64:=by unfold pb;rw[List.length_append,h.1,h.2]
def Ol (n:Nat) (t:TypeId) (w:World) (raw:Result Next):Value→Result Next
 | .agg cs=>if cs.size=n then .ok (.value (.slice (some ⟨w.heap.size,0,none⟩) 1 1)) (w.alloc (.cells cs t)) else raw
 | _=>raw
@[go_sem] theorem E3h (n : Nat) (t : TypeId) (w : World) (raw : Result Next) (l : List UInt8) : Ol n t w raw (A8 l) = if l.length = n then .ok (.value (.slice (some ⟨w.heap.size, 0, none⟩) 1 1)) (w.alloc (.cells (c8 l).toArray t)) else raw := by
 have e:Ol n t w raw (A8 l)=if (c8 l).toArray.size=n then .ok (.value (.slice (some ⟨w.heap.size,0,none⟩) 1 1)) (w.alloc (.cells (c8 l).toArray t)) else raw:=rfl;rw[e];simp only[List.size_toArray,C3]
noncomputable def A6v (w:World) (raw:Result Next) (k v:Value):Result Next:=
 match Bt k,Bt v with
 | some k,some v=>if k.length=32∧v.length=32 then .ok (.value (A8 (pb (k,v)))) w else raw
 | _,_=>raw
@[go_sem] theorem D8r (w : World) (raw : Result Next) (k v : List UInt8) (hk : k.length = 32) (hv : v.length = 32) : A6v w raw (A8 k) (A8 v) = .ok (.value (A8 (pb (k, v)))) w := by
 unfold A6v;rw[Y4,Y4];simp[hk,hv]
section
variable {w : World} {g : Nat} {t : TypeId} {p : Pr}
theorem Hg (h:Bk w g t (c8 (pb p))) (hp:Xu p):C6 w ⟨g,0,none⟩ 32=some (c8 p.1):=by
 have:=h.rowMid 0 32 (by rw[C3,hp.len];omega);rw[this];simp[pb,c8,hp.1]
theorem A2a (h:Bk w g t (c8 (pb p))) (hp:Xu p):C6 w ⟨g,32,none⟩ 32=some (c8 p.2):=by
 have:=h.rowMid 32 32 (by rw[C3,hp.len];omega);rw[this];simp[pb,c8,hp.1,hp.2,List.take_of_length_le]
theorem B3e (h:Bk w g t (c8 (pb p))) (hp:Xu p):C6 w ⟨g,0,none⟩ 64=some (c8 (pb p)):=by
 have:=h.rows;rwa [C3,hp.len]at this
theorem Bk.fresh (w:World) (t:TypeId) {l m:List UInt8} (h:l.length=m.length):Bk (C5 (w.alloc (.cells (c8 l).toArray t)) ⟨w.heap.size,0,none⟩ (c8 m)) w.heap.size t (c8 m):=(Bk.new w t (c8 l)).puts (by simp[h])
end
end
section
open Classical in
noncomputable def Sq (a b:List UInt8):Bool:=decide (klt a b)
theorem X1 {a b:List UInt8}:Sq a b=true↔klt a b:=by unfold Sq;simp
noncomputable def E3x (k:List UInt8) (m:List Pr):Bool:=m.any fun q=>!Sq q.1 k
noncomputable def E3a (k x:List UInt8) (m:List Pr):List Pr:=(m.filter fun q=>Sq q.1 k)++(if E3x k m then [(k,x)] else [])++(m.filter fun q=>Sq k q.1)
noncomputable def B3c (k x:List UInt8) (m:List Pr):List Pr:=(m.filter fun q=>Sq q.1 k)++[(k,x)]++(m.filter fun q=>Sq k q.1)
def D0z (l:List Pr):Prop:=(∀p∈l,p.1.length=32∧p.2.length=32)∧l.Pairwise fun x y=>klt x.1 y.1
section
variable {k x : List UInt8} {m : List Pr} {q : Pr}
theorem F1b (hk:k.length=32) (hx:x.length=32) (h:∀p∈m,p.1.length=32∧p.2.length=32):∀p∈E3a k x m,p.1.length=32∧p.2.length=32:=by
 intro p hp;unfold E3a at hp;simp only[List.mem_append,List.mem_filter]at hp;rcases hp with (hp | hp) | hp
 ·exact h p hp.1
 ·split at hp
  ·simp at hp;subst hp;exact ⟨hk,hx⟩
  ·simp at hp
 ·exact h p hp.1
theorem C3q (hk:k.length=32) (hx:x.length=32) (h:D0z m):D0z (B3c k x m):=by
 constructor
 ·intro p hp;simp only[B3c,List.mem_append,List.mem_filter,List.mem_singleton]at hp;rcases hp with (hp | rfl) | hp
  ·exact h.1 p hp.1
  ·exact ⟨hk,hx⟩
  ·exact h.1 p hp.1
 ·unfold B3c;rw[List.pairwise_append,List.pairwise_append];refine ⟨⟨h.2.filter _,List.pairwise_singleton _ _,fun a ha b hb=>?_⟩,h.2.filter _,fun a ha b hb=>?_⟩
  ·simp at hb;subst hb;exact X1.1 (List.mem_filter.1 ha).2
  ·have aA:=X1.1 (List.mem_filter.1 hb).2;rcases List.mem_append.1 ha with ha | ha
   ·exact (X1.1 (List.mem_filter.1 ha).2).trans aA
   ·simp at ha;subst ha;exact aA
theorem C8m (hk:k.length=32) (h:D0z m) (p:Pr):p∈B3c k x m↔p=(k,x)∨(p∈m∧p.1≠k):=by
 simp only[B3c,List.mem_append,List.mem_filter,List.mem_singleton];constructor
 ·rintro ((⟨h1,h2⟩ | rfl) | ⟨h1,h2⟩)
  ·exact .inr ⟨h1,(X1.1 h2).ne⟩
  ·exact .inl rfl
  ·exact .inr ⟨h1,fun e=>(X1.1 h2).ne e.symm⟩
 ·rintro (rfl | ⟨h1,h2⟩)
  ·exact .inl (.inr rfl)
  ·rcases klt.total (h.1 p h1).1 hk h2 with h3 | h3
   ·exact .inl (.inl ⟨h1,X1.2 h3⟩)
   ·exact .inr ⟨h1,X1.2 h3⟩
end
theorem Ok.rise {t:Tr} {d:Nat} {P:Nat→Bool} (ok:Ok d P t):D0z t.pairs:=⟨fun p hp=>⟨(Ok.keys ok p hp).1,(Ok.keys ok p hp).2.1⟩,ok.sorted⟩
theorem C1c {k x:List UInt8} {t:Tr} {P:Nat→Bool} (hk:k.length=32) (hx:x.length=32) (ok:Ok 0 P t):B3c k x t.pairs=(Cz k x 256 0 t).pairs:=by
 have hi:=Nt k x hk hx 256 0 t P (by omega) (fun i hi=>by omega) ok;refine Qx (C3q hk hx ok.rise).2 hi.sorted fun p=>?_;rw[C8m hk ok.rise,Dk k x hk 256 0 t P (by omega) (fun i hi=>by omega) ok]
end
theorem Ke {α:Type} {l:List α} {i:Nat} {q:α} (h:l[i]?=some q):l.take (i+1)=l.take i++[q]:=by rw[List.take_add_one,h];rfl
theorem By.of_row {w:World} {g o n:Nat} {l:List UInt8} (h:C6 w ⟨g,o,none⟩ n=some (c8 l)) (hg:g<w.heap.size) (hn:n≤9223372036854775807):By w 0 w.heap.size (.slice (some ⟨g,o,none⟩) n n) l:=by
 obtain⟨h1,h2⟩:=U9.1 h;rw[C3]at h1;subst h1;exact By.mk_ (Nat.le_refl _) (by unfold maxLen;exact hn) (.inr ⟨g,o,rfl,Nat.zero_le _,hg,fun j u hj=>h2 j u hj⟩)
section
def P0:Nat→Bool:=fun _=>false
def Okt (t:Tr):Prop:=Ok 0 P0 t
def Rx (t:Tr) (k v:List UInt8):Tr:=Cz k v 256 0 t
def F4p (l:List Pr) (t:Tr):Tr:=l.foldl (fun t p=>Rx t p.1 p.2) t
section
variable {t : Tr} {k v : List UInt8}
theorem Okt.put (ok:Okt t) (hk:k.length=32) (hv:v.length=32):Okt (Rx t k v):=Nt k v hk hv 256 0 t P0 (by omega) (fun i hi=>by omega) ok
theorem Zt (ok:Okt t) (hk:k.length=32) (x:Pr):x∈(Rx t k v).pairs↔x=(k,v)∨(x∈t.pairs∧x.1≠k):=Dk k v hk 256 0 t P0 (by omega) (fun i hi=>by omega) ok x
theorem C8x (ok:Okt t) (hk:k.length=32):(Rx t k v).len≤t.len+1:=by
 unfold Rx;rw[X6 k v hk 256 0 t P0 (by omega) (fun i hi=>by omega) ok];split<;>omega
theorem Okt.nil:Okt .e:=trivial
end
end
section
section
variable {w : World} {base : Nat} {v : Value} {e : TypeId} {sz n : Nat} {xs : List Value}
theorem O7 (h:w.ownsRow base e sz v n xs):∃A c,v=.slice A n c∧n≤c∧c≤9223372036854775807:=by
 rcases h.2 with ⟨rfl,rfl⟩ | ⟨g,cap,cur,rfl,_,_,h1,h2,_⟩
 ·exact ⟨none,0,rfl,Nat.le_refl _,by omega⟩
 ·exact ⟨_,cap,rfl,h1,by unfold maxLen at h2;exact h2⟩
theorem Q7 {w':World} {B:Nat} (h:w.ownsRow base e sz v n xs) (hb:Below B w w') (hB:w.heap.size≤B):w'.ownsRow base e sz v n xs:=by
 refine World.ownsRow.kept (row:=none) h ⟨hb.os,hb.tape,hb.output,hb.size,fun k hk _=>hb.block k (by omega)⟩ ?_;cases hv:v.ownBlock<;>simp
theorem Km {base':Nat} (h:w.ownsRow base e sz v n xs) (hb:base'≤base):w.ownsRow base' e sz v n xs:=by
 refine ⟨h.1,?_⟩;rcases h.2 with h2 | ⟨g,cap,cur,hv,hg,r⟩
 ·exact .inl h2
 ·exact .inr ⟨g,cap,cur,hv,by omega,r⟩
theorem Sm {n' c:Nat} {A:Option Addr} (h:w.ownsRow base e sz (.slice A n' c) n xs):Rd w base w.heap.size A xs:=by
 rcases h.2 with ⟨hv,hn⟩ | ⟨g,cap,cur,hv,hbg,hh,_⟩
 ·subst hn;exact .inl (List.eq_nil_of_length_eq_zero (by rw[h.1,Nat.zero_mul]))
 ·have hA:A=Option.some ⟨g,0,none⟩:=by injection hv
  subst hA;refine .inr ⟨g,0,rfl,hbg,(Array.getElem?_eq_some_iff.1 hh).1,fun j u hu=>?_⟩;have:=h.cells (g:=g) rfl j u hu;rwa [Q4]at this
variable {P : Program} {ops : Array Oper} {rest : List Oper} {o : Oper} {a : Act} {Q : Exit → Act → World → Prop}
theorem A9z (t:TypeId) (z:Value) (bytes:Nat) (ht:P.underlying t=some (.slice e)) (hinf:(P.info? e).map (fun i=>(i.zero,i.size,i.bytes))=some (some z,sz,bytes)) (hzs:z.cells.size=sz) (hpos:0<sz) (hby:bytes≤1024)
 (hgd:o.guard=none) (s x:Operand) (ho:o.op=.call { callee:=.builtin .append,args:=#[s,x],argTypes:=#[t,t] })
 (hs:a.eval s=v) (hown:w.ownsRow base e sz v n xs) (A:Option Addr) (m c:Nat) (hx:a.eval x=.slice A m c) (ys:List Value) (hl:ys.length=m*sz) (lo B:Nat) (hrd:Rd w lo B A ys) (hone:∀u∈ys,u.oneCell'=true) (hsz:n+m≤68719476736) (hb:base≤w.heap.size)
 (h:∀A' c' w',n+m≤c'→c'≤9223372036854775807→w'.ownsRow base e sz (.slice A' (n+m) c') (n+m) (xs++ys)→Below base w w'→w.grownBy w' v.ownBlock→((Value.slice A' (n+m) c').ownBlock=v.ownBlock∨(Value.slice A' (n+m) c').ownBlock=some w.heap.size)→wpList P ops Q rest (a.put o.dst (.slice A' (n+m) c')) w'):wpList P ops Q (o::rest) a w:=
 wpList_plain hgd fun _ hK=>by
  obtain⟨i0,aC,aD,aE,aF⟩:=info_parts hinf;have aB:(n+m)*bytes≤140737488355328:=by
   have:=Nat.mul_le_mul hsz hby;omega
  have aG:∃v' w',(Builtin.append_ #[t,t] o.type #[v,.slice A m c]).run P w=.ok v' w'∧w'.ownsRow base e sz v' (n+m) (xs++ys)∧w.grownBy w' v.ownBlock∧(v'.ownBlock=v.ownBlock∨v'.ownBlock=some w.heap.size):=by
   have aA:∀ad:Addr,(∀j u,ys[j]?=some u→w.cell? (ad.add j)=some u)→∃v' w',(Builtin.append_ #[t,t] o.type #[v,.slice (some ad) m c]).run P w=.ok v' w'∧w'.ownsRow base e sz v' (n+m) (xs++ys)∧w.grownBy w' v.ownBlock∧(v'.ownBlock=v.ownBlock∨v'.ownBlock=some w.heap.size):=by intro ad hc;obtain⟨v',w',h5,h6,h7,_,h8⟩:=run_append_own_at (P:=P) w base t o.type e i0 z sz bytes ht aC aD aE aF hzs hpos v n xs hown ad m c ys hl hc hone (by simp only[maxLen];omega) aB hb;exact ⟨v',w',h5,h6,h7,h8⟩
   rcases hrd with hy | ⟨g,of,rfl,_,_,hc⟩
   ·subst hy;have hm:m=0:=by
     have h0:m*sz=0:=by rw[←hl];rfl
     rcases Nat.mul_eq_zero.1 h0 with h | h
     ·exact h
     ·omega
    subst hm;cases A with
    | some ad=>exact aA ad (by simp)
    | none=>exact ⟨v,w,Lo w base _ o.type _ i0 sz ht aC v _ _ hown c,by simpa using hown,World.grownBy.refl w _,.inl rfl⟩
   ·exact aA ⟨g,of,none⟩ (fun j u hj=>by rw[Q4];exact hc j u hj)
  obtain⟨v',w',hr,h2,h3,h4⟩:=aG;unfold Oper.wp execOp;simp only[ho,resolve,invoke,builtin,Sem.run_bind,Sem.run_pure,Result.andThen_ok,List.map_toArray,List.map_cons,List.map_nil,hs,hx,hr];obtain⟨A',c',rfl,aH,aI⟩:=O7 h2;exact hK _ _ (h A' c' w' aH aI h2 ((Below.refl _ _).grown h3 hb fun k hk=>(hown.lt k hk).1) h3 h4)
end
theorem Vk {P:Program} (w:World) (ρ:Operand→Value) (dst:Option Tmp) (ty:TypeId) (pos:String) (after:Array Edge) (guard:Option (Nat×Bool)) (t e n by_:Nat) (z:Value) (x:Operand)
 (ht:P.underlying t=some (.slice e)) (hi:(P.info? e).map (fun i=>(i.zero,i.size,i.bytes))=some (some z,n,by_)) (hz:z.cells.size=n) (hn:n≤16777216) (hp:n≠0) :
 (execOp ρ { dst,op:=.buildSlice t 1 #[(0,x)],type:=ty,pos,after,guard }).run P w=Ol n e w (P8 P ρ { dst,op:=.buildSlice t 1 #[(0,x)],type:=ty,pos,after,guard } w) (ρ x):=by
 generalize hv:ρ x=v;unfold Ol;split
 ·rename_i cs
  split
  ·rename_i hcs
   cases hq:P.info? e with
   | none=>simp[hq]at hi
   | some i=>
    simp only[hq,Option.map_some,Option.some.injEq,Prod.mk.injEq]at hi;obtain⟨h1,h2,_⟩:=hi;have hf:Instr.fill (fun i=>some (i*n,n)) ((Array.range (1*n)).map (fun j=>z.cells[j % z.cells.size]!)) [(0,Value.agg cs)]=some cs:=by
     have aA:((Array.range (1*n)).map (fun j=>z.cells[j % z.cells.size]!)).size=n:=by simp
     generalize (Array.range (1*n)).map (fun j=>z.cells[j % z.cells.size]!)=m at *;have h3:=Vv (fun i=>some (i*n,n)) [(0,Value.agg cs)] [(0,cs.toList)] m.toList ⟨by simp[hcs],rfl,by simp[hcs,aA],trivial⟩;rw[Array.toArray_toList]at h3;rw[h3];simp[Ib,Y7,hcs,aA,List.drop_eq_nil_of_le]
    have aB:¬ (16777216<n):=by omega
    have hr:(Instr.buildSlice t 1 #[(0,Value.agg cs)]).run P w=.ok (.slice (some ⟨w.heap.size,0,none⟩) 1 1) (w.alloc (.cells cs e)):=by unfold Instr.buildSlice;simp only[Sem.run_bind,run_underlying ht,Result.andThen_ok,sizeOf,typeInfo,Sem.run_pure];simp only[Nat.one_mul]at hf;simp[hq,h2,aB,hp,zeroValue,typeInfo,h1,newRow];rw[hf];rfl
    simp only[execOp,List.map_toArray,List.map_cons,List.map_nil,hv,Sem.run_bind,hr,Result.andThen_ok,Sem.run_pure]
  ·rfl
 ·rfl
def Hs (w:World) (lo B:Nat) (v:Value) (l:List (List UInt8)):Prop:=(∀k∈l,k.length=32)∧∃A c,v=.slice A l.length c∧l.length≤c∧c≤maxLen∧Rd w lo B A (c8 l.flatten)
section
variable {w w' : World} {lo lo' B B' : Nat} {v : Value} {l : List (List UInt8)}
theorem Hs.below (h:Hs w lo B v l) (hb:Below B w w'):Hs w' lo B v l:=let ⟨h0,A,c,h1,h2,h3,h4⟩:=h;⟨h0,A,c,h1,h2,h3,h4.below hb⟩
theorem Hs.more (h:Hs w lo B v l) (hB:B≤B'):Hs w lo B' v l:=let ⟨h0,A,c,h1,h2,h3,h4⟩:=h;⟨h0,A,c,h1,h2,h3,h4.more hB⟩
theorem Hs.form (h:Hs w lo B v l):∃A c,v=.slice A l.length c∧l.length≤c∧c≤9223372036854775807:=by
 obtain⟨_,A,c,h1,h2,h3,_⟩:=h;exact ⟨A,c,h1,h2,by unfold maxLen at h3;exact h3⟩
theorem X9 {l:List (List UInt8)} (h:∀k∈l,k.length=32):l.flatten.length=l.length*32:=by
 induction l with
 | nil=>rfl
 | cons k l ih=>
  have h1:=ih fun q hq=>h q (by simp[hq]);have h2:=h k (by simp);simp only[List.flatten_cons,List.length_append,List.length_cons]at h1 ⊢;omega
theorem B2z {l:List (List UInt8)} (h:∀k∈l,k.length=32):∀ {i:Nat} {k:List UInt8},l[i]?=some k→(l.flatten.drop (i*32)).take 32=k:=by
 induction l with
 | nil=>intro i p hp;simp at hp
 | cons q l ih=>
  intro i p hp;have h2:=h q (by simp);cases i with
  | zero=>
   simp at hp;subst hp;simp only[List.flatten_cons,Nat.zero_mul,List.drop_zero];rw[←h2,List.take_left]
  | succ i=>
   have:=ih (fun q hq=>h q (by simp[hq])) (i:=i) (k:=p) (by simpa using hp);simp only[List.flatten_cons];rw[show (i+1)*32=q.length+i*32 by omega,←List.drop_drop,List.drop_left];exact this
theorem Hs.row (h:Hs w lo B v l):∃g o c,(∀i k,l[i]?=some k→C6 w ⟨g,o+i*32,none⟩ 32=some (c8 k))∧lo≤g∧g<B∧v=.slice (some ⟨g,o,none⟩) l.length c∧l.length≤c∧c≤9223372036854775807∨l=[]:=by
 obtain⟨h0,A,c,h1,h2,h3,h4⟩:=h;rcases Nat.eq_zero_or_pos l.length with h5 | h5
 ·exact ⟨0,0,0,.inr (List.eq_nil_of_length_eq_zero h5)⟩
 ·obtain⟨g,o,rfl,hl,hb,hc⟩:=h4.some (by rw[C3,X9 h0];omega);refine ⟨g,o,c,.inl ⟨fun i k hk=>?_,hl,hb,h1,h2,by unfold maxLen at h3;exact h3⟩⟩;have aB:=B2z h0 hk;have aA:=h0 k (List.mem_of_getElem? hk);refine U9.2 ⟨by rw[C3,aA],fun j u hj=>?_⟩;have aC:j<32:=by have:=(List.getElem?_eq_some_iff.1 hj).1;rw[C3,aA]at this;exact this
  rw[Nat.add_assoc];refine hc _ _ ?_;rw[←hj,←aB];simp only[c8,List.getElem?_map,List.getElem?_take,List.getElem?_drop,if_pos aC]
end
@[go_sem] theorem A3t (n : Nat) (t : TypeId) (w : World) (raw : Result Next) (cs : Array Value) : Ol n t w raw (.agg cs) = if cs.size = n then .ok (.value (.slice (some ⟨w.heap.size, 0, none⟩) 1 1)) (w.alloc (.cells cs t)) else raw := rfl
theorem A3s:(Tryz.prog.info? 35).map (fun i=>(i.zero,i.size,i.bytes))=some (some (A8 (z8 32)),32,32):=by kernel_rfl
theorem D6x {e t n b:Nat} {z:Value} (ht:Tryz.prog.underlying t=some (.slice e)) (hi:(Tryz.prog.info? e).map (fun i=>(i.zero,i.size,i.bytes))=some (some z,n,b)) (hz:z.cells.size=n) (hn:n≤16777216) (hp:n≠0)
 (w:World) (ρ:Operand→Value) (dst:Option Tmp) (ty:TypeId) (pos:String) (after:Array Edge) (guard:Option (Nat×Bool)) (x:Operand) :
 (execOp ρ { dst,op:=.buildSlice t 1 #[(0,x)],type:=ty,pos,after,guard }).run Tryz.prog w=Ol n e w (P8 Tryz.prog ρ { dst,op:=.buildSlice t 1 #[(0,x)],type:=ty,pos,after,guard } w) (ρ x):=Vk w ρ dst ty pos after guard t e n b z x ht hi hz hn hp
@[go_sem ↓ high] theorem F1a (w : World) (ρ : Operand → Value) (dst : Option Tmp) (ty : TypeId) (pos : String) (after : Array Edge) (guard : Option (Nat × Bool)) (x : Operand) :
 (execOp ρ { dst,op:=.buildSlice 26 1 #[(0,x)],type:=ty,pos,after,guard }).run Tryz.prog w=Ol 32 35 w (P8 Tryz.prog ρ { dst,op:=.buildSlice 26 1 #[(0,x)],type:=ty,pos,after,guard } w) (ρ x):=
 D6x Tryz.underlying26 A3s (by simp[A8,Value.cells]) (by decide) (by decide) w ρ dst ty pos after guard x
end
theorem D4j (W:World) (c:Int) (b:UInt8) (hc:c=n8 b):By (W.alloc (.cells #[.int .u8 c] 5)) 0 (W.alloc (.cells #[.int .u8 c] 5)).heap.size (.slice (some ⟨W.heap.size,0,none⟩) 1 1) [b]:=by
 have:=By.build W 5 (0,0) [b] (by simp);subst hc;simpa [v8] using this
theorem D5e {a b c:List UInt8} {x y z:Nat} (h1:a.length=x) (h2:b.length=y) (h3:c.length=z) (hs:x+y+z≤1099511627776):[a,b,c].flatten.length≤1099511627776:=by simp[h1,h2,h3];omega
def Nu (ls:List (List UInt8)):List UInt8:=Ii ls.flatten
@[simp, go_sem] theorem Cb (ls : List (List UInt8)) : (Nu ls).length = 32 := Ck _
theorem C0h (v:Value) (ls:List (List UInt8)) (w:World) (hp:M5 w w.heap.size v ls) (hsz:ls.flatten.length≤1099511627776) :
 Calls Tryz.prog 104 #[v] w fun e w'=>e=.returned (A8 (Nu ls))∧Below w.heap.size w w':=Hw v ls w hp hsz
def W8 (ks:List (List UInt8)):Nat→List UInt8
 | 0=>z8 32
 | i+1=>Nu [[3],W8 ks i,gl ks i]
@[simp, go_sem] theorem Cl (ks : List (List UInt8)) : ∀ i, (W8 ks i).length = 32
 | 0=>by simp[W8]
 | i+1=>Cb _
def U0 (ks:List (List UInt8)):List UInt8:=Nu [[2],J9 (UInt64.ofNat ks.length),W8 ks ks.length]
theorem T7 (ks:List (List UInt8)):(U0 ks).length=32:=Cb _
theorem Kf (v:Value) (ks:List (List UInt8)) (w:World) (hv:Hs w 0 w.heap.size v ks) (hkn:ks.length≤1000000):Calls Tryz.prog 56 #[v] w fun e w'=>e=.returned (A8 (U0 ks))∧Below w.heap.size w w':=by
 obtain⟨A,c,rfl,eB,eJ⟩:=hv.form;have HV:=Lib.hid hv;have dI:=hv.1;obtain⟨n,hn⟩:∃n,n=ks.length:=⟨_,rfl⟩;have hw:IntKind.u64.wrap (n:Int)=H6 (UInt64.ofNat n):=by rw[Dv];unfold H6;simp
 have HN:=Lib.hid hn;rw[←hn]at eB hkn ⊢;have eC:=Lib.hid dI;clear hv dI hn;have HE:Hid (U0 ks=Nu [[2],J9 (UInt64.ofNat n),W8 ks n]):=Lib.hid (by rw[HN.out];rfl);obtain⟨W0,cN⟩:∃z,z=(w.alloc (Obj.cells (c8 (z8 32)).toArray 35)):=⟨_,rfl⟩;have hL:W0=Y6 w [(35,(c8 (z8 32)))]:=cN;have B0:Below w.heap.size w W0:=by rw[hL];exact N7 _ _
 have aU:Bk W0 (w.heap.size) 35 (c8 (z8 32)):=by rw[hL];exact H7 _ w 0 _ _ rfl
 have z0:w.heap.size+1≤W0.heap.size:=by rw[hL,U1];simp
 have dJ:W0.heap.size=w.heap.size+1:=by rw[hL,U1];rfl
 clear hL;obtain⟨V1,bG⟩:∃z,z=W0.alloc (Obj.cells (c8 (z8 32)).toArray 35):=⟨_,rfl⟩;have cO:W0.heap.size=w.heap.size+1:=dJ;have aM:Bk V1 (w.heap.size+1) 35 (c8 (z8 32)):=by rw[bG,←cO];exact Bk.new W0 _ _
 have aN:Bk V1 (w.heap.size) 35 (c8 (z8 32)):=by rw[bG];exact aU.alloc _
 have dK:Below w.heap.size w V1:=by rw[bG];exact B0.alloc B0.size _
 have bL:w.heap.size<w.heap.size+1:=by rw[←cO];exact aU.lt
 have dL:w.heap.size+1≤w.heap.size+1:=by omega
 clear cO;go_enter Tryz.func56,Tryz.ntmps56;go_wp2_with fail;rw[←cN,←bG];have dM:w.heap.size+1≤V1.heap.size:=by have hz:=z0;rw[bG];first | (simp;omega) | (simp[World.setCell];omega)
 clear cN bG dJ aU B0 z0;go_loopw [8] (fun x8 wr=>∃m:Nat,0≤m∧m≤n∧x8=.int .i64 (m:Int)∧Bk wr (w.heap.size) 35 (c8 (z8 32))∧Bk wr (w.heap.size+1) 35 (c8 (W8 ks m))∧Below w.heap.size w wr∧w.heap.size+1≤wr.heap.size) (fun x8 _=>n-(intOf x8).toNat)
 case atStart=>exact ⟨0,by omega,by omega,rfl,aN,aM,dK,dM⟩
 case round=>
  clear dK dM aN aM;obtain⟨m,bH,hm,rfl,aC,aA,bI,bM⟩:=hrel;by_cases hltm:m<n
  ·
   have hd:decide ((m:Int)<(n:Int))=true:=decide_eq_true (by omega);have eK:decide (m<n)=true:=decide_eq_true hltm;obtain⟨kk,aV⟩:∃k,k=gl ks m:=⟨_,rfl⟩;have bH:m<ks.length:=by rw[←HN.out];exact hltm
   have cP:ks[m]?=some kk:=by rw[aV];unfold gl;rw[List.getElem?_eq_getElem bH];simp[bH]
   have cL:kk.length=32:=eC.out kk (List.mem_of_getElem? cP);have HD:Hid (W8 ks (m+1)=Nu [[3],W8 ks m,kk]):=Lib.hid (by rw[aV];rfl);obtain⟨g,o,hA,hg,bN⟩:∃g o,A=some ⟨g,o,none⟩∧g<w.heap.size∧C6 w ⟨g,o+m*32,none⟩ 32=some (c8 kk):=by
    obtain⟨g,o,c',hh⟩:=HV.out.row;rcases hh with ⟨hr,_,hg,hA,_,_⟩ | h0
    ·injection hA with hA;exact ⟨g,o,hA,hg,hr m kk cP⟩
    ·rw[h0]at bH;simp at bH
   subst hA;have eD:=(Xf (a:=⟨g,o+m*32,none⟩) bI hg).trans bN;clear aV bH cP bN;obtain⟨V2,aO⟩:∃z,z=wr.alloc (Obj.cells (c8 (z8 32)).toArray 35):=⟨_,rfl⟩;have bO:wr.heap.size=wr.heap.size:=rfl;have aF:Bk V2 (wr.heap.size) 35 (c8 (z8 32)):=by rw[aO,←bO];exact Bk.new wr _ _
   have aP:Bk V2 (w.heap.size) 35 (c8 (z8 32)):=by rw[aO];exact aC.alloc _
   have aQ:Bk V2 (w.heap.size+1) 35 (c8 (W8 ks m)):=by rw[aO];exact aA.alloc _
   have dO:Below w.heap.size w V2:=by rw[aO];exact bI.alloc bI.size _
   have aG:w.heap.size<wr.heap.size:=by rw[←bO];exact aC.lt
   have aH:w.heap.size+1<wr.heap.size:=by rw[←bO];exact aA.lt
   have bP:w.heap.size+1≤wr.heap.size:=by rw[←bO];exact Nat.le_trans bM (Nat.le_refl _)
   clear bO;obtain⟨V3,aW⟩:∃z,z=C5 V2 ⟨wr.heap.size,0,none⟩ (c8 kk):=⟨_,rfl⟩;have aB:Bk V3 (wr.heap.size) 35 (c8 kk):=by rw[aW];exact Bk.put8 (aF) ((show (z8 32).length=32 from by simp)) (cL)
   have aI:Bk V3 (w.heap.size) 35 (c8 (z8 32)):=by rw[aW];exact aP.putFar (p:=⟨wr.heap.size,0,none⟩) (by show w.heap.size≠wr.heap.size;omega) _
   have aD:Bk V3 (w.heap.size+1) 35 (c8 (W8 ks m)):=by rw[aW];exact aQ.putFar (p:=⟨wr.heap.size,0,none⟩) (by show w.heap.size+1≠wr.heap.size;omega) _
   have cQ:Below w.heap.size w V3:=by rw[aW];exact C1 dO (by show w.heap.size≤wr.heap.size;omega) _
   have cR:=eD;have aR:E4 V2 ⟨wr.heap.size,0,none⟩ 32=true:=Bk.can8 (aF) ((show (z8 32).length=32 from by simp));rw[aO]at aR;have cS:kk.length=32:=cL;go_wp2_with fail;rw[←aO,←aW];clear cR aR cS;obtain⟨p4,cT⟩:∃g,g=wr.heap.size:=⟨_,rfl⟩;rw[←cT]at aB aG aH bP;try rw[←cT]
   have dQ:w.heap.size+1≤V3.heap.size:=by have hz:=bM;rw[aW,aO];first | (simp;omega) | (simp[World.setCell];omega)
   clear aO aW cT bM aP aQ aF dO;have S5:Below V3.heap.size V3 V3.drew:=(Below.refl _ _).drew;refine D9 (fun W=>True) (by kernel_rfl) ?_;refine C4 (A:=?eL) [1,2] (by kernel_rfl) (by kernel_rfl) rfl (by kernel_rfl) (by kernel_rfl) trivial (h:=fun W hW=>?eE) (hr:=?eM);case eE=>
    simp only[pick,List.getElem?_cons_zero,List.getElem?_cons_succ];repeat (go_big_quiet_step (fail))
    refine wpQuiet_nil ?_;rfl
   refine Bn [zb 0 12 [3],zs 3 15 3 [[3],(W8 ks m),kk],zv 4 16 (A8 (Nu [[3],(W8 ks m),kk]))] (by kernel_rfl) (fun W hW=>trivial) ?bQ ?bR ?bS;case bQ=>exact (List.forall_mem_cons.2 ⟨zb_mono _ _ _,(List.forall_mem_cons.2 ⟨zs_mono _ _ _ _,(List.forall_mem_cons.2 ⟨V8 _ _ _,(fun _ h=>by cases h)⟩)⟩)⟩)
   case bR=>
    refine (List.forall_mem_cons.2 ⟨?cU,(List.forall_mem_cons.2 ⟨?cV,(List.forall_mem_cons.2 ⟨?cW,(fun _ h=>by cases h)⟩)⟩)⟩);case cU=>
     intro o ho us W hW hp Q' hQ';obtain rfl:=Option.some.inj ho;clear hp ho;rw[C7]at hQ' ⊢;dsimp only[D8,H9,List.foldl,zv,za,zs,zp,zb]at hQ' ⊢;simp only[List.set_cons_succ,List.set_cons_zero];go_wp2_with fail;exact F0 (hQ' _ _ ((Below.refl _ _).alloc (Nat.le_refl _) _) (D4j W 3 _ rfl) (fun h=>by cases h)) (by kernel_rfl)
    case cV=>intro o ho us W hW hp Q' hQ';obtain rfl:=Option.some.inj ho;have aJ:By W 0 W.heap.size (us 0) [3]:=hp 0 _ rfl (by kernel_rfl);obtain⟨A0,n0,c0,aX⟩:=aJ.formE;rw[aX]at aJ;have aJ:=Lib.hid aJ;clear hp ho;rw[C7]at hQ' ⊢;dsimp only[D8,H9,List.foldl,zv,za,zs,zp,zb]at hQ' ⊢;simp only[List.set_cons_succ,List.set_cons_zero];rw[aX]at hQ' ⊢;clear aX;have aK:=aD.drew.below hW aD.drew.lt;have bT:=aB.drew.below hW aB.drew.lt;go_wp2_with fail;exact F0 (hQ' _ _ ((Below.refl _ _).alloc (Nat.le_refl _) _) ⟨_,rfl,(M5.three W _ _ _ _ [3] (W8 ks m) kk aJ.out (Bk.byAll (aK) (Cl ks m) (by decide)) (Bk.byAll (bT) cL (by decide))).more (by simp)⟩ (fun h=>by cases h)) (by kernel_rfl)
    case cW=>
     intro o ho us W hW hp Q' hQ';obtain rfl:=Option.some.inj ho;obtain⟨dS,bU,bX⟩:=hp 1 _ rfl (by kernel_rfl);have bU:us 3=.slice (some ⟨dS,0,none⟩) 3 3:=bU;have bX:M5 W W.heap.size (.slice (some ⟨dS,0,none⟩) 3 3) [[3],(W8 ks m),kk]:=by rw[←bU];exact bX
     have bX:=Lib.hid bX;clear hp ho;rw[C7]at hQ' ⊢;dsimp only[D8,H9,List.foldl,zv,za,zs,zp,zb]at hQ' ⊢;simp only[List.set_cons_succ,List.set_cons_zero];rw[bU]at hQ' ⊢;clear bU;go_wp2_with fail;refine (C0h _ [[3],(W8 ks m),kk] W bX.out (D5e rfl (Cl ks m) cL (by decide))).mono ?_;rintro e W2 ⟨rfl,b2⟩;go_wp2_with fail;exact F0 (hQ' _ _ b2 rfl (fun h=>by cases h)) (by kernel_rfl)
   case bS=>
   intro us W6 b7 hg aY cX;have bY:By W6 0 W6.heap.size (us 0) [3]:=hg _ (List.mem_of_getElem? (i:=0) rfl);have bY:=Lib.hid bY;have bJ:us 4=(A8 (Nu [[3],(W8 ks m),kk])):=hg _ (List.mem_of_getElem? (i:=2) rfl);have b8:=C0 S5 b7 S5.size;rw[C7];dsimp only[H9,List.foldl,zv,za,zs,zp,zb];simp only[List.set_cons_succ,List.set_cons_zero];rw[bJ];clear hg aY cX bJ b7 S5;have B6:=C0 cQ b8 cQ.size;have z6:=Nat.le_trans dQ b8.size;have bZ:=aI.below b8 aI.lt;have aZ:=aD.below b8 aD.lt;have cA:=aB.below b8 aB.lt;clear b8 cQ dQ aI aD aB;obtain⟨W9,bA⟩:∃z,z=C5 W6 ⟨w.heap.size+1,0,none⟩ (c8 (Nu [[3],(W8 ks m),kk])):=⟨_,rfl⟩;have cY:Bk W9 (w.heap.size+1) 35 (c8 (Nu [[3],(W8 ks m),kk])):=by rw[bA];exact Bk.put8 (aZ) ((Cl ks m)) ((Cb [[3],(W8 ks m),kk]))
   have cZ:Bk W9 (w.heap.size) 35 (c8 (z8 32)):=by rw[bA];exact bZ.putFar (p:=⟨w.heap.size+1,0,none⟩) (by show w.heap.size≠w.heap.size+1;omega) _
   have eF:Bk W9 (p4) 35 (c8 kk):=by rw[bA];exact cA.putFar (p:=⟨w.heap.size+1,0,none⟩) (by show p4≠w.heap.size+1;omega) _
   have B9:Below w.heap.size w W9:=by rw[bA];exact C1 B6 (by show w.heap.size≤w.heap.size+1;omega) _
   have cB:E4 W6 ⟨w.heap.size+1,0,none⟩ 32=true:=Bk.can8 (aZ) ((Cl ks m));have cC:(Nu [[3],(W8 ks m),kk]).length=32:=(Cb [[3],(W8 ks m),kk]);refine C2 5 (by kernel_rfl) (by rfl) (by rfl) (fun Q' hQ'=>?_);dsimp only[D8];go_wp2_with fail;rw[←bA];refine hQ' _ _ trivial ?_;clear hQ' cB cC;have z9:w.heap.size+1≤W9.heap.size:=by have hz:=z6;rw[bA];simp;omega
   clear bA B6 z6 bZ aZ cA;refine E5 (by kernel_rfl) ?_;go_wp2_with fail;go_roundw;case rel=>exact ⟨m+1,by omega,by omega,by go_num,cZ,(by rw[HD.out];exact cY),B9,z9⟩
   case measure=>simp[intOf];omega
  ·
   obtain rfl:n=m:=by omega
   go_wp2_with fail;have dC:Below wr.heap.size wr wr.drew:=(Below.refl _ _).drew;refine D9 (fun W=>True) (by kernel_rfl) ?_;refine C4 (A:=?eG) [1,2,3,5] (by kernel_rfl) (by kernel_rfl) rfl (by kernel_rfl) (by kernel_rfl) trivial (h:=fun W hW=>?dD) (hr:=?eH);case dD=>
    simp only[pick,List.getElem?_cons_zero,List.getElem?_cons_succ];repeat (go_big_quiet_step (fail))
    refine wpQuiet_nil ?_;rfl
   refine Bn [zb 0 18 [2],zb 4 22 (J9 (UInt64.ofNat n)),zs 6 24 3 [[2],(J9 (UInt64.ofNat n)),(W8 ks n)],zv 7 25 (A8 (Nu [[2],(J9 (UInt64.ofNat n)),(W8 ks n)]))] (by kernel_rfl) (fun W hW=>trivial) ?bB ?bC ?bD;case bB=>exact (List.forall_mem_cons.2 ⟨zb_mono _ _ _,(List.forall_mem_cons.2 ⟨zb_mono _ _ _,(List.forall_mem_cons.2 ⟨zs_mono _ _ _ _,(List.forall_mem_cons.2 ⟨V8 _ _ _,(fun _ h=>by cases h)⟩)⟩)⟩)⟩)
   case bC=>
    refine (List.forall_mem_cons.2 ⟨?cD,(List.forall_mem_cons.2 ⟨?cE,(List.forall_mem_cons.2 ⟨?cF,(List.forall_mem_cons.2 ⟨?cG,(fun _ h=>by cases h)⟩)⟩)⟩)⟩);case cD=>
     intro o ho us W hW hp Q' hQ';obtain rfl:=Option.some.inj ho;clear hp ho;rw[C7]at hQ' ⊢;dsimp only[D8,H9,List.foldl,zv,za,zs,zp,zb]at hQ' ⊢;simp only[List.set_cons_succ,List.set_cons_zero];go_wp2_with fail;exact F0 (hQ' _ _ ((Below.refl _ _).alloc (Nat.le_refl _) _) (D4j W 2 _ rfl) (fun h=>by cases h)) (by kernel_rfl)
    case cE=>intro o ho us W hW hp Q' hQ';obtain rfl:=Option.some.inj ho;clear hp ho;rw[C7]at hQ' ⊢;dsimp only[D8,H9,List.foldl,zv,za,zs,zp,zb]at hQ' ⊢;simp only[List.set_cons_succ,List.set_cons_zero];go_wp2_with fail;refine (Ca (.slice none 0 0) [] (UInt64.ofNat n) W (.inl ⟨rfl,rfl⟩) (by simp)).mono ?_;rintro e W2 ⟨v2,rfl,dF,b2⟩;have dF:=Lib.hid dF;go_wp2_with fail;exact F0 (hQ' _ _ b2 dF.out.up (fun h=>by cases h)) (by kernel_rfl)
    case cF=>intro o ho us W hW hp Q' hQ';obtain rfl:=Option.some.inj ho;have aJ:By W 0 W.heap.size (us 0) [2]:=hp 0 _ rfl (by kernel_rfl);obtain⟨A0,n0,c0,aX⟩:=aJ.formE;rw[aX]at aJ;have aJ:=Lib.hid aJ;have aS:By W 0 W.heap.size (us 4) (J9 (UInt64.ofNat n)):=hp 1 _ rfl (by kernel_rfl);obtain⟨A4,n4,c4,bJ⟩:=aS.formE;rw[bJ]at aS;have aS:=Lib.hid aS;clear hp ho;rw[C7]at hQ' ⊢;dsimp only[D8,H9,List.foldl,zv,za,zs,zp,zb]at hQ' ⊢;simp only[List.set_cons_succ,List.set_cons_zero];rw[aX,bJ]at hQ' ⊢;clear aX bJ;have aK:=aA.drew.below hW aA.drew.lt;go_wp2_with fail;exact F0 (hQ' _ _ ((Below.refl _ _).alloc (Nat.le_refl _) _) ⟨_,rfl,(M5.three W _ _ _ _ [2] (J9 (UInt64.ofNat n)) (W8 ks n) aJ.out aS.out (Bk.byAll (aK) (Cl ks n) (by decide))).more (by simp)⟩ (fun h=>by cases h)) (by kernel_rfl)
    case cG=>
     intro o ho us W hW hp Q' hQ';obtain rfl:=Option.some.inj ho;have aS:By W 0 W.heap.size (us 4) (J9 (UInt64.ofNat n)):=hp 1 _ rfl (by kernel_rfl);have aS:=Lib.hid aS;obtain⟨dT,cH,cI⟩:=hp 2 _ rfl (by kernel_rfl);have cH:us 6=.slice (some ⟨dT,0,none⟩) 3 3:=cH;have cI:M5 W W.heap.size (.slice (some ⟨dT,0,none⟩) 3 3) [[2],(J9 (UInt64.ofNat n)),(W8 ks n)]:=by rw[←cH];exact cI
     have cI:=Lib.hid cI;clear hp ho;rw[C7]at hQ' ⊢;dsimp only[D8,H9,List.foldl,zv,za,zs,zp,zb]at hQ' ⊢;simp only[List.set_cons_succ,List.set_cons_zero];rw[cH]at hQ' ⊢;clear cH;go_wp2_with fail;refine (C0h _ [[2],(J9 (UInt64.ofNat n)),(W8 ks n)] W cI.out (D5e rfl (Q8 (UInt64.ofNat n)) (Cl ks n) (by decide))).mono ?_;rintro e W2 ⟨rfl,b2⟩;go_wp2_with fail;exact F0 (hQ' _ _ b2 rfl (fun h=>by cases h)) (by kernel_rfl)
   case bD=>
   intro us bK dU hg aY cX;have bY:By bK 0 bK.heap.size (us 0) [2]:=hg _ (List.mem_of_getElem? (i:=0) rfl);have bY:=Lib.hid bY;have dW:By bK 0 bK.heap.size (us 4) (J9 (UInt64.ofNat n)):=hg _ (List.mem_of_getElem? (i:=1) rfl);have dW:=Lib.hid dW;have dX:us 7=(A8 (Nu [[2],(J9 (UInt64.ofNat n)),(W8 ks n)])):=hg _ (List.mem_of_getElem? (i:=3) rfl);have cJ:=C0 dC dU dC.size;rw[C7];dsimp only[H9,List.foldl,zv,za,zs,zp,zb];simp only[List.set_cons_succ,List.set_cons_zero];rw[dX];clear hg aY cX dX dU dC;have dY:=C0 bI cJ bI.size;have dZ:=Nat.le_trans bM cJ.size;have aL:=aC.below cJ aC.lt;have aT:=aA.below cJ aA.lt;clear cJ bI bM aC aA;obtain⟨cM,aE⟩:∃z,z=C5 bK ⟨w.heap.size,0,none⟩ (c8 (Nu [[2],(J9 (UInt64.ofNat n)),(W8 ks n)])):=⟨_,rfl⟩;have cK:Bk cM (w.heap.size) 35 (c8 (Nu [[2],(J9 (UInt64.ofNat n)),(W8 ks n)])):=by rw[aE];exact Bk.put8 (aL) ((show (z8 32).length=32 from by simp)) ((Cb [[2],(J9 (UInt64.ofNat n)),(W8 ks n)]))
   have eA:Bk cM (w.heap.size+1) 35 (c8 (W8 ks n)):=by rw[aE];exact aT.putFar (p:=⟨w.heap.size,0,none⟩) (by show w.heap.size+1≠w.heap.size;omega) _
   have eI:Below w.heap.size w cM:=by rw[aE];exact C1 dY (by show w.heap.size≤w.heap.size;omega) _
   have bE:E4 bK ⟨w.heap.size,0,none⟩ 32=true:=Bk.can8 (aL) ((show (z8 32).length=32 from by simp));have bF:(Nu [[2],(J9 (UInt64.ofNat n)),(W8 ks n)]).length=32:=(Cb [[2],(J9 (UInt64.ofNat n)),(W8 ks n)]);refine C2 8 (by kernel_rfl) (by rfl) (by rfl) (fun Q' hQ'=>?_);dsimp only[D8];go_wp2_with fail;rw[←aE];refine hQ' _ _ trivial ?_;clear hQ' bE bF;have eN:w.heap.size+1≤cM.heap.size:=by have hz:=dZ;rw[aE];simp;omega
   clear aE dY dZ aL aT;refine E5 (by kernel_rfl) ?_;go_wp2_with fail;have dG:(Nu [[2],(J9 (UInt64.ofNat n)),(W8 ks n)]).length=32:=(Cb [[2],(J9 (UInt64.ofNat n)),(W8 ks n)]);refine bodyPost_ret (C8 rfl _ _ _ _ _ _ rfl cK Tryz.underlying35 rfl (by simp[J5,dG])) rfl ⟨by rw[HE.out];rfl,eI⟩
theorem Hs.at_ {w:World} {B:Nat} {A:Option Addr} {n c:Nat} {ks:List (List UInt8)} (h:Hs w 0 B (.slice A n c) ks) {m:Nat} {k:List UInt8} (hk:ks[m]?=some k):∃g o,A=some ⟨g,o,none⟩∧g<B∧C6 w ⟨g,o+m*32,none⟩ 32=some (c8 k):=by
 obtain⟨g,o,c',hh⟩:=h.row;rcases hh with ⟨hr,_,hg,hA,_,_⟩ | h0
 ·injection hA with hA;exact ⟨g,o,hA,hg,hr m k hk⟩
 ·rw[h0]at hk;simp at hk
end Go.Proofs.YtdfpoofbgjilgaaGreat
