/- A part of the proof of AuditTells. -/
import Derived.Outline
import Derived.Maps.AppendAt
import Derived.Test.YtmllnpokbbabhaaGreatTat
set_option linter.unusedVariables false
set_option linter.unusedSimpArgs false
set_option maxRecDepth 100000
set_option maxHeartbeats 40000000
namespace Go.Proofs.YtmllnpokbbabhaaGreat
open Go Go.RowKit Sh
section
def pb (p:Pr):List UInt8:=p.1++p.2
def Si (p:Pr):Prop:=p.1.length=32∧p.2.length=32
theorem Si.len {p:Pr} (h:Si p):(pb p).length=64:=by unfold pb;rw[List.length_append,h.1,h.2]
def Kv (n:Nat) (t:TypeId) (w:World) (raw:Result Next):Value→Result Next
 | .agg cs=>if cs.size=n then .ok (.value (.slice (some ⟨w.heap.size,0,none⟩) 1 1)) (w.alloc (.cells cs t)) else raw
 | _=>raw
@[go_sem] theorem E4z (n : Nat) (t : TypeId) (w : World) (raw : Result Next) (l : List UInt8) : Kv n t w raw (A8 l) = if l.length = n then .ok (.value (.slice (some ⟨w.heap.size, 0, none⟩) 1 1)) (w.alloc (.cells (c8 l).toArray t)) else raw := by
 have e:Kv n t w raw (A8 l)=if (c8 l).toArray.size=n then .ok (.value (.slice (some ⟨w.heap.size,0,none⟩) 1 1)) (w.alloc (.cells (c8 l).toArray t)) else raw:=rfl;rw[e];simp only[List.size_toArray,C1]
noncomputable def A9l (w:World) (raw:Result Next) (k v:Value):Result Next:=
 match Bs k,Bs v with
 | some k,some v=>if k.length=32∧v.length=32 then .ok (.value (A8 (pb (k,v)))) w else raw
 | _,_=>raw
@[go_sem] theorem E2b (w : World) (raw : Result Next) (k v : List UInt8) (hk : k.length = 32) (hv : v.length = 32) : A9l w raw (A8 k) (A8 v) = .ok (.value (A8 (pb (k, v)))) w := by
 unfold A9l;rw[X7,X7];simp[hk,hv]
section
variable {w : World} {g : Nat} {t : TypeId} {p : Pr}
theorem Hv (h:Bk w g t (c8 (pb p))) (hp:Si p):C4 w ⟨g,0,none⟩ 32=some (c8 p.1):=by
 have:=h.rowMid 0 32 (by rw[C1,hp.len];omega);rw[this];simp[pb,c8,hp.1]
theorem A1g (h:Bk w g t (c8 (pb p))) (hp:Si p):C4 w ⟨g,32,none⟩ 32=some (c8 p.2):=by
 have:=h.rowMid 32 32 (by rw[C1,hp.len];omega);rw[this];simp[pb,c8,hp.1,hp.2,List.take_of_length_le]
theorem B3u (h:Bk w g t (c8 (pb p))) (hp:Si p):C4 w ⟨g,0,none⟩ 64=some (c8 (pb p)):=by
 have:=h.rows;rwa [C1,hp.len]at this
theorem Bk.fresh (w:World) (t:TypeId) {l m:List UInt8} (h:l.length=m.length):Bk (C2 (w.alloc (.cells (c8 l).toArray t)) ⟨w.heap.size,0,none⟩ (c8 m)) w.heap.size t (c8 m):=(Bk.new w t (c8 l)).puts (by simp[h])
end
end
section
open Classical in
noncomputable def Jy (a b:List UInt8):Bool:=decide (klt a b)
theorem U6 {a b:List UInt8}:Jy a b=true↔klt a b:=by unfold Jy;simp
noncomputable def E7d (k:List UInt8) (m:List Pr):Bool:=m.any fun q=>!Jy q.1 k
noncomputable def E2w (k x:List UInt8) (m:List Pr):List Pr:=(m.filter fun q=>Jy q.1 k)++(if E7d k m then [(k,x)] else [])++(m.filter fun q=>Jy k q.1)
noncomputable def B3b (k x:List UInt8) (m:List Pr):List Pr:=(m.filter fun q=>Jy q.1 k)++[(k,x)]++(m.filter fun q=>Jy k q.1)
def D5v (l:List Pr):Prop:=(∀p∈l,p.1.length=32∧p.2.length=32)∧l.Pairwise fun x y=>klt x.1 y.1
section
variable {k x : List UInt8} {m : List Pr} {q : Pr}
theorem E8c (hk:k.length=32) (hx:x.length=32) (h:∀p∈m,p.1.length=32∧p.2.length=32):∀p∈E2w k x m,p.1.length=32∧p.2.length=32:=by
 intro p hp;unfold E2w at hp;simp only[List.mem_append,List.mem_filter]at hp;rcases hp with (hp | hp) | hp
 ·exact h p hp.1
 ·split at hp
  ·simp at hp;subst hp;exact ⟨hk,hx⟩
  ·simp at hp
 ·exact h p hp.1
theorem C6c (hk:k.length=32) (hx:x.length=32) (h:D5v m):D5v (B3b k x m):=by
 constructor
 ·intro p hp;simp only[B3b,List.mem_append,List.mem_filter,List.mem_singleton]at hp;rcases hp with (hp | rfl) | hp
  ·exact h.1 p hp.1
  ·exact ⟨hk,hx⟩
  ·exact h.1 p hp.1
 ·unfold B3b;rw[List.pairwise_append,List.pairwise_append];refine ⟨⟨h.2.filter _,List.pairwise_singleton _ _,fun a ha b hb=>?_⟩,h.2.filter _,fun a ha b hb=>?_⟩
  ·simp at hb;subst hb;exact U6.1 (List.mem_filter.1 ha).2
  ·have aA:=U6.1 (List.mem_filter.1 hb).2;rcases List.mem_append.1 ha with ha | ha
   ·exact (U6.1 (List.mem_filter.1 ha).2).trans aA
   ·simp at ha;subst ha;exact aA
theorem D0h (hk:k.length=32) (h:D5v m) (p:Pr):p∈B3b k x m↔p=(k,x)∨(p∈m∧p.1≠k):=by
 simp only[B3b,List.mem_append,List.mem_filter,List.mem_singleton];constructor
 ·rintro ((⟨h1,h2⟩ | rfl) | ⟨h1,h2⟩)
  ·exact .inr ⟨h1,(U6.1 h2).ne⟩
  ·exact .inl rfl
  ·exact .inr ⟨h1,fun e=>(U6.1 h2).ne e.symm⟩
 ·rintro (rfl | ⟨h1,h2⟩)
  ·exact .inl (.inr rfl)
  ·rcases klt.total (h.1 p h1).1 hk h2 with h3 | h3
   ·exact .inl (.inl ⟨h1,U6.2 h3⟩)
   ·exact .inr ⟨h1,U6.2 h3⟩
end
theorem Ok.rise {t:Tr} {d:Nat} {P:Nat→Bool} (ok:Ok d P t):D5v t.pairs:=⟨fun p hp=>⟨(Ok.keys ok p hp).1,(Ok.keys ok p hp).2.1⟩,ok.sorted⟩
theorem C5j {k x:List UInt8} {t:Tr} {P:Nat→Bool} (hk:k.length=32) (hx:x.length=32) (ok:Ok 0 P t):B3b k x t.pairs=(Dl k x 256 0 t).pairs:=by
 have hi:=Qe k x hk hx 256 0 t P (by omega) (fun i hi=>by omega) ok;refine Tl (C6c hk hx ok.rise).2 hi.sorted fun p=>?_;rw[D0h hk ok.rise,Eb k x hk 256 0 t P (by omega) (fun i hi=>by omega) ok]
end
theorem Kt {α:Type} {l:List α} {i:Nat} {q:α} (h:l[i]?=some q):l.take (i+1)=l.take i++[q]:=by rw[List.take_add_one,h];rfl
theorem By.of_row {w:World} {g o n:Nat} {l:List UInt8} (h:C4 w ⟨g,o,none⟩ n=some (c8 l)) (hg:g<w.heap.size) (hn:n≤9223372036854775807):By w 0 w.heap.size (.slice (some ⟨g,o,none⟩) n n) l:=by
 obtain⟨h1,h2⟩:=T5.1 h;rw[C1]at h1;subst h1;exact By.mk_ (Nat.le_refl _) (by unfold maxLen;exact hn) (.inr ⟨g,o,rfl,Nat.zero_le _,hg,fun j u hj=>h2 j u hj⟩)
section
def P0:Nat→Bool:=fun _=>false
def Okt (t:Tr):Prop:=Ok 0 P0 t
def Uq (t:Tr) (k v:List UInt8):Tr:=Dl k v 256 0 t
def F1o (l:List Pr) (t:Tr):Tr:=l.foldl (fun t p=>Uq t p.1 p.2) t
section
variable {t : Tr} {k v : List UInt8}
theorem Okt.put (ok:Okt t) (hk:k.length=32) (hv:v.length=32):Okt (Uq t k v):=Qe k v hk hv 256 0 t P0 (by omega) (fun i hi=>by omega) ok
theorem A3f (ok:Okt t) (hk:k.length=32) (x:Pr):x∈(Uq t k v).pairs↔x=(k,v)∨(x∈t.pairs∧x.1≠k):=Eb k v hk 256 0 t P0 (by omega) (fun i hi=>by omega) ok x
theorem C8h (ok:Okt t) (hk:k.length=32):(Uq t k v).len≤t.len+1:=by
 unfold Uq;rw[Y8 k v hk 256 0 t P0 (by omega) (fun i hi=>by omega) ok];split<;>omega
theorem Okt.nil:Okt .e:=trivial
end
end
section
section
variable {w : World} {base : Nat} {v : Value} {e : TypeId} {sz n : Nat} {xs : List Value}
theorem F8 (h:w.ownsRow base e sz v n xs):∃A c,v=.slice A n c∧n≤c∧c≤9223372036854775807:=by
 rcases h.2 with ⟨rfl,rfl⟩ | ⟨g,cap,cur,rfl,_,_,h1,h2,_⟩
 ·exact ⟨none,0,rfl,Nat.le_refl _,by omega⟩
 ·exact ⟨_,cap,rfl,h1,by unfold maxLen at h2;exact h2⟩
theorem J7 {w':World} {B:Nat} (h:w.ownsRow base e sz v n xs) (hb:Below B w w') (hB:w.heap.size≤B):w'.ownsRow base e sz v n xs:=by
 refine World.ownsRow.kept (row:=none) h ⟨hb.os,hb.tape,hb.output,hb.size,fun k hk _=>hb.block k (by omega)⟩ ?_;cases hv:v.ownBlock<;>simp
theorem Eo {base':Nat} (h:w.ownsRow base e sz v n xs) (hb:base'≤base):w.ownsRow base' e sz v n xs:=by
 refine ⟨h.1,?_⟩;rcases h.2 with h2 | ⟨g,cap,cur,hv,hg,r⟩
 ·exact .inl h2
 ·exact .inr ⟨g,cap,cur,hv,by omega,r⟩
theorem B9c {n' c:Nat} {A:Option Addr} (h:w.ownsRow base e sz (.slice A n' c) n xs):Rd w base w.heap.size A xs:=by
 rcases h.2 with ⟨hv,hn⟩ | ⟨g,cap,cur,hv,hbg,hh,_⟩
 ·subst hn;exact .inl (List.eq_nil_of_length_eq_zero (by rw[h.1,Nat.zero_mul]))
 ·have hA:A=Option.some ⟨g,0,none⟩:=by injection hv
  subst hA;refine .inr ⟨g,0,rfl,hbg,(Array.getElem?_eq_some_iff.1 hh).1,fun j u hu=>?_⟩;have:=h.cells (g:=g) rfl j u hu;rwa [P9]at this
variable {P : Program} {ops : Array Oper} {rest : List Oper} {o : Oper} {a : Act} {Q : Exit → Act → World → Prop}
theorem B7p (t:TypeId) (z:Value) (bytes:Nat) (ht:P.underlying t=some (.slice e)) (hinf:(P.info? e).map (fun i=>(i.zero,i.size,i.bytes))=some (some z,sz,bytes)) (hzs:z.cells.size=sz) (hpos:0<sz) (hby:bytes≤1024)
 (hgd:o.guard=none) (s x:Operand) (ho:o.op=.call { callee:=.builtin .append,args:=#[s,x],argTypes:=#[t,t] })
 (hs:a.eval s=v) (hown:w.ownsRow base e sz v n xs) (A:Option Addr) (m c:Nat) (hx:a.eval x=.slice A m c) (ys:List Value) (hl:ys.length=m*sz) (lo B:Nat) (hrd:Rd w lo B A ys) (hone:∀u∈ys,u.oneCell'=true) (hsz:n+m≤68719476736) (hb:base≤w.heap.size)
 (h:∀A' c' w',n+m≤c'→c'≤9223372036854775807→w'.ownsRow base e sz (.slice A' (n+m) c') (n+m) (xs++ys)→Below base w w'→w.grownBy w' v.ownBlock→((Value.slice A' (n+m) c').ownBlock=v.ownBlock∨(Value.slice A' (n+m) c').ownBlock=some w.heap.size)→wpList P ops Q rest (a.put o.dst (.slice A' (n+m) c')) w'):wpList P ops Q (o::rest) a w:=
 wpList_plain hgd fun _ hK=>by
  obtain⟨i0,aC,aD,aE,aF⟩:=info_parts hinf;have aB:(n+m)*bytes≤140737488355328:=by
   have:=Nat.mul_le_mul hsz hby;omega
  have aG:∃v' w',(Builtin.append_ #[t,t] o.type #[v,.slice A m c]).run P w=.ok v' w'∧w'.ownsRow base e sz v' (n+m) (xs++ys)∧w.grownBy w' v.ownBlock∧(v'.ownBlock=v.ownBlock∨v'.ownBlock=some w.heap.size):=by
   have aA:∀ad:Addr,(∀j u,ys[j]?=some u→w.cell? (ad.add j)=some u)→∃v' w',(Builtin.append_ #[t,t] o.type #[v,.slice (some ad) m c]).run P w=.ok v' w'∧w'.ownsRow base e sz v' (n+m) (xs++ys)∧w.grownBy w' v.ownBlock∧(v'.ownBlock=v.ownBlock∨v'.ownBlock=some w.heap.size):=by intro ad hc;obtain⟨v',w',h5,h6,h7,_,h8⟩:=run_append_own_at (P:=P) w base t o.type e i0 z sz bytes ht aC aD aE aF hzs hpos v n xs hown ad m c ys hl hc hone (by simp only[maxLen];omega) aB hb;exact ⟨v',w',h5,h6,h7,h8⟩
   rcases hrd with hy | ⟨g,of,rfl,_,_,hc⟩
   ·subst hy;have hm:m=0:=by
     have h0:m*sz=0:=by rw[←hl];rfl
     rcases Nat.mul_eq_zero.1 h0 with h | h
     ·exact h
     ·omega
    subst hm;cases A with
    | some ad=>exact aA ad (by simp)
    | none=>exact ⟨v,w,Nk w base _ o.type _ i0 sz ht aC v _ _ hown c,by simpa using hown,World.grownBy.refl w _,.inl rfl⟩
   ·exact aA ⟨g,of,none⟩ (fun j u hj=>by rw[P9];exact hc j u hj)
  obtain⟨v',w',hr,h2,h3,h4⟩:=aG;unfold Oper.wp execOp;simp only[ho,resolve,invoke,builtin,Sem.run_bind,Sem.run_pure,Result.andThen_ok,List.map_toArray,List.map_cons,List.map_nil,hs,hx,hr];obtain⟨A',c',rfl,aH,aI⟩:=F8 h2;exact hK _ _ (h A' c' w' aH aI h2 ((Below.refl _ _).grown h3 hb fun k hk=>(hown.lt k hk).1) h3 h4)
end
theorem Rp {P:Program} (w:World) (ρ:Operand→Value) (dst:Option Tmp) (ty:TypeId) (pos:String) (after:Array Edge) (guard:Option (Nat×Bool)) (t e n by_:Nat) (z:Value) (x:Operand)
 (ht:P.underlying t=some (.slice e)) (hi:(P.info? e).map (fun i=>(i.zero,i.size,i.bytes))=some (some z,n,by_)) (hz:z.cells.size=n) (hn:n≤16777216) (hp:n≠0) :
 (execOp ρ { dst,op:=.buildSlice t 1 #[(0,x)],type:=ty,pos,after,guard }).run P w=Kv n e w (O9 P ρ { dst,op:=.buildSlice t 1 #[(0,x)],type:=ty,pos,after,guard } w) (ρ x):=by
 generalize hv:ρ x=v;unfold Kv;split
 ·rename_i cs
  split
  ·rename_i hcs
   cases hq:P.info? e with
   | none=>simp[hq]at hi
   | some i=>
    simp only[hq,Option.map_some,Option.some.injEq,Prod.mk.injEq]at hi;obtain⟨h1,h2,_⟩:=hi;have hf:Instr.fill (fun i=>some (i*n,n)) ((Array.range (1*n)).map (fun j=>z.cells[j % z.cells.size]!)) [(0,Value.agg cs)]=some cs:=by
     have aA:((Array.range (1*n)).map (fun j=>z.cells[j % z.cells.size]!)).size=n:=by simp
     generalize (Array.range (1*n)).map (fun j=>z.cells[j % z.cells.size]!)=m at *;have h3:=Wv (fun i=>some (i*n,n)) [(0,Value.agg cs)] [(0,cs.toList)] m.toList ⟨by simp[hcs],rfl,by simp[hcs,aA],trivial⟩;rw[Array.toArray_toList]at h3;rw[h3];simp[Gl,Y7,hcs,aA,List.drop_eq_nil_of_le]
    have aB:¬ (16777216<n):=by omega
    have hr:(Instr.buildSlice t 1 #[(0,Value.agg cs)]).run P w=.ok (.slice (some ⟨w.heap.size,0,none⟩) 1 1) (w.alloc (.cells cs e)):=by unfold Instr.buildSlice;simp only[Sem.run_bind,run_underlying ht,Result.andThen_ok,sizeOf,typeInfo,Sem.run_pure];simp only[Nat.one_mul]at hf;simp[hq,h2,aB,hp,zeroValue,typeInfo,h1,newRow];rw[hf];rfl
    simp only[execOp,List.map_toArray,List.map_cons,List.map_nil,hv,Sem.run_bind,hr,Result.andThen_ok,Sem.run_pure]
  ·rfl
 ·rfl
def Hs (w:World) (lo B:Nat) (v:Value) (l:List (List UInt8)):Prop:=(∀k∈l,k.length=32)∧∃A c,v=.slice A l.length c∧l.length≤c∧c≤maxLen∧Rd w lo B A (c8 l.flatten)
section
variable {w w' : World} {lo lo' B B' : Nat} {v : Value} {l : List (List UInt8)}
theorem Hs.below (h:Hs w lo B v l) (hb:Below B w w'):Hs w' lo B v l:=let ⟨h0,A,c,h1,h2,h3,h4⟩:=h;⟨h0,A,c,h1,h2,h3,h4.below hb⟩
theorem Hs.more (h:Hs w lo B v l) (hB:B≤B'):Hs w lo B' v l:=let ⟨h0,A,c,h1,h2,h3,h4⟩:=h;⟨h0,A,c,h1,h2,h3,h4.more hB⟩
theorem Hs.form (h:Hs w lo B v l):∃A c,v=.slice A l.length c∧l.length≤c∧c≤9223372036854775807:=by
 obtain⟨_,A,c,h1,h2,h3,_⟩:=h;exact ⟨A,c,h1,h2,by unfold maxLen at h3;exact h3⟩
theorem X0 {l:List (List UInt8)} (h:∀k∈l,k.length=32):l.flatten.length=l.length*32:=by
 induction l with
 | nil=>rfl
 | cons k l ih=>
  have h1:=ih fun q hq=>h q (by simp[hq]);have h2:=h k (by simp);simp only[List.flatten_cons,List.length_append,List.length_cons]at h1 ⊢;omega
theorem B3c {l:List (List UInt8)} (h:∀k∈l,k.length=32):∀ {i:Nat} {k:List UInt8},l[i]?=some k→(l.flatten.drop (i*32)).take 32=k:=by
 induction l with
 | nil=>intro i p hp;simp at hp
 | cons q l ih=>
  intro i p hp;have h2:=h q (by simp);cases i with
  | zero=>
   simp at hp;subst hp;simp only[List.flatten_cons,Nat.zero_mul,List.drop_zero];rw[←h2,List.take_left]
  | succ i=>
   have:=ih (fun q hq=>h q (by simp[hq])) (i:=i) (k:=p) (by simpa using hp);simp only[List.flatten_cons];rw[show (i+1)*32=q.length+i*32 by omega,←List.drop_drop,List.drop_left];exact this
theorem Hs.row (h:Hs w lo B v l):∃g o c,(∀i k,l[i]?=some k→C4 w ⟨g,o+i*32,none⟩ 32=some (c8 k))∧lo≤g∧g<B∧v=.slice (some ⟨g,o,none⟩) l.length c∧l.length≤c∧c≤9223372036854775807∨l=[]:=by
 obtain⟨h0,A,c,h1,h2,h3,h4⟩:=h;rcases Nat.eq_zero_or_pos l.length with h5 | h5
 ·exact ⟨0,0,0,.inr (List.eq_nil_of_length_eq_zero h5)⟩
 ·obtain⟨g,o,rfl,hl,hb,hc⟩:=h4.some (by rw[C1,X0 h0];omega);refine ⟨g,o,c,.inl ⟨fun i k hk=>?_,hl,hb,h1,h2,by unfold maxLen at h3;exact h3⟩⟩;have aB:=B3c h0 hk;have aA:=h0 k (List.mem_of_getElem? hk);refine T5.2 ⟨by rw[C1,aA],fun j u hj=>?_⟩;have aC:j<32:=by have:=(List.getElem?_eq_some_iff.1 hj).1;rw[C1,aA]at this;exact this
  rw[Nat.add_assoc];refine hc _ _ ?_;rw[←hj,←aB];simp only[c8,List.getElem?_map,List.getElem?_take,List.getElem?_drop,if_pos aC]
end
@[go_sem] theorem Xy (n : Nat) (t : TypeId) (w : World) (raw : Result Next) (cs : Array Value) : Kv n t w raw (.agg cs) = if cs.size = n then .ok (.value (.slice (some ⟨w.heap.size, 0, none⟩) 1 1)) (w.alloc (.cells cs t)) else raw := rfl
theorem Yo:(Tryz.prog.info? 40).map (fun i=>(i.zero,i.size,i.bytes))=some (some (A8 (z8 32)),32,32):=by kernel_rfl
theorem D8q {e t n b:Nat} {z:Value} (ht:Tryz.prog.underlying t=some (.slice e)) (hi:(Tryz.prog.info? e).map (fun i=>(i.zero,i.size,i.bytes))=some (some z,n,b)) (hz:z.cells.size=n) (hn:n≤16777216) (hp:n≠0)
 (w:World) (ρ:Operand→Value) (dst:Option Tmp) (ty:TypeId) (pos:String) (after:Array Edge) (guard:Option (Nat×Bool)) (x:Operand) :
 (execOp ρ { dst,op:=.buildSlice t 1 #[(0,x)],type:=ty,pos,after,guard }).run Tryz.prog w=Kv n e w (O9 Tryz.prog ρ { dst,op:=.buildSlice t 1 #[(0,x)],type:=ty,pos,after,guard } w) (ρ x):=Rp w ρ dst ty pos after guard t e n b z x ht hi hz hn hp
@[go_sem ↓ high] theorem E8u (w : World) (ρ : Operand → Value) (dst : Option Tmp) (ty : TypeId) (pos : String) (after : Array Edge) (guard : Option (Nat × Bool)) (x : Operand) :
 (execOp ρ { dst,op:=.buildSlice 49 1 #[(0,x)],type:=ty,pos,after,guard }).run Tryz.prog w=Kv 32 40 w (O9 Tryz.prog ρ { dst,op:=.buildSlice 49 1 #[(0,x)],type:=ty,pos,after,guard } w) (ρ x):=
 D8q Tryz.underlying49 Yo (by simp[A8,Value.cells]) (by decide) (by decide) w ρ dst ty pos after guard x
end
theorem D7a (W:World) (c:Int) (b:UInt8) (hc:c=n8 b):By (W.alloc (.cells #[.int .u8 c] 5)) 0 (W.alloc (.cells #[.int .u8 c] 5)).heap.size (.slice (some ⟨W.heap.size,0,none⟩) 1 1) [b]:=by
 have:=By.build W 5 (0,0) [b] (by simp);subst hc;simpa [v8] using this
theorem D7r {a b c:List UInt8} {x y z:Nat} (h1:a.length=x) (h2:b.length=y) (h3:c.length=z) (hs:x+y+z≤1099511627776):[a,b,c].flatten.length≤1099511627776:=by simp[h1,h2,h3];omega
def Sb (ls:List (List UInt8)):List UInt8:=Jt ls.flatten
@[simp, go_sem] theorem Cl (ls : List (List UInt8)) : (Sb ls).length = 32 := Db _
theorem C1l (v:Value) (ls:List (List UInt8)) (w:World) (hp:M6 w w.heap.size v ls) (hsz:ls.flatten.length≤1099511627776) :
 Calls Tryz.prog 68 #[v] w fun e w'=>e=.returned (A8 (Sb ls))∧Below w.heap.size w w':=Jb v ls w hp hsz
def Z6 (ks:List (List UInt8)):Nat→List UInt8
 | 0=>z8 32
 | i+1=>Sb [[3],Z6 ks i,gl ks i]
@[simp, go_sem] theorem Cz (ks : List (List UInt8)) : ∀ i, (Z6 ks i).length = 32
 | 0=>by simp[Z6]
 | i+1=>Cl _
def W8 (ks:List (List UInt8)):List UInt8:=Sb [[2],J8 (UInt64.ofNat ks.length),Z6 ks ks.length]
theorem U2 (ks:List (List UInt8)):(W8 ks).length=32:=Cl _
theorem Mw (v:Value) (ks:List (List UInt8)) (w:World) (hv:Hs w 0 w.heap.size v ks) (hkn:ks.length≤1000000):Calls Tryz.prog 28 #[v] w fun e w'=>e=.returned (A8 (W8 ks))∧Below w.heap.size w w':=by
 obtain⟨A,c,rfl,dT,eB⟩:=hv.form;have HV:=Lib.hid hv;have cX:=hv.1;obtain⟨n,hn⟩:=D9 (ks.length);have hw:IntKind.u64.wrap (n:Int)=E6 (UInt64.ofNat n):=by rw[Ep];unfold E6;simp
 have HN:=Lib.hid hn;rw[←hn]at dT hkn ⊢;have dU:=Lib.hid cX;clear hv cX hn;have HE:Hid (W8 ks=Sb [[2],J8 (UInt64.ofNat n),Z6 ks n]):=Lib.hid (by rw[HN.out];rfl);obtain⟨W0,cI⟩:=D9 ((w.alloc (Obj.cells (c8 (z8 32)).toArray 40)));have hL:W0=Z0 w [(40,(c8 (z8 32)))]:=cI;have B0:=BL' hL;have bH:=KZ' hL rfl;have z0:=ZL' 1 hL rfl;have cY:=SL' 1 hL rfl;clear hL;obtain⟨V1,bD⟩:=D9 (W0.alloc (Obj.cells (c8 (z8 32)).toArray 40));have cZ:W0.heap.size=w.heap.size+1:=cY;have aL:Bk V1 (w.heap.size+1) 40 (c8 (z8 32)):=by rw[bD,←cZ];exact Bk.new W0 _ _
 have aM:=KA' bD bH;have dC:=BC' bD B0;clear cZ;go_enter Tryz.func28,Tryz.ntmps28;go_wp2_with fail;rw[←cI,←bD];have dD:=ZA' bD z0;clear cI bD cY bH B0 z0;go_loopw [8] (fun x8 wr=>∃m:Nat,0≤m∧m≤n∧x8=.int .i64 (m:Int)∧Bk wr (w.heap.size) 40 (c8 (z8 32))∧Bk wr (w.heap.size+1) 40 (c8 (Z6 ks m))∧Below w.heap.size w wr∧w.heap.size+1≤wr.heap.size) (fun x8 _=>n-(intOf x8).toNat)
 case atStart=>exact ⟨0,by omega,by omega,rfl,aM,aL,dC,dD⟩
 case round=>
  clear dC dD aM aL;obtain⟨m,bE,hm,rfl,aA,aB,cF,cG⟩:=hrel;by_cases hltm:m<n
  ·
   have hd:decide ((m:Int)<(n:Int))=true:=decide_eq_true (by omega);have eC:=decide_eq_true hltm;obtain⟨kk,aT⟩:=D9 (gl ks m);have bE:m<ks.length:=by rw[←HN.out];exact hltm
   have cJ:ks[m]?=some kk:=by rw[aT];unfold gl;rw[List.getElem?_eq_getElem bE];simp[bE]
   have cH:=dU.out kk (List.mem_of_getElem? cJ);have HD:Hid (Z6 ks (m+1)=Sb [[3],Z6 ks m,kk]):=Lib.hid (by rw[aT];rfl);obtain⟨g,o,hA,hg,bI⟩:∃g o,A=some ⟨g,o,none⟩∧g<w.heap.size∧C4 w ⟨g,o+m*32,none⟩ 32=some (c8 kk):=by
    obtain⟨g,o,c',hh⟩:=HV.out.row;rcases hh with ⟨hr,_,hg,hA,_,_⟩ | h0
    ·injection hA with hA;exact ⟨g,o,hA,hg,hr m kk cJ⟩
    ·rw[h0]at bE;simp at bE
   subst hA;have dW:=(Gj (a:=⟨g,o+m*32,none⟩) cF hg).trans bI;clear aT bE cJ bI;obtain⟨V2,aN⟩:=D9 (wr.alloc (Obj.cells (c8 (z8 32)).toArray 40));have bJ:wr.heap.size=wr.heap.size:=rfl;have aC:Bk V2 (wr.heap.size) 40 (c8 (z8 32)):=by rw[aN,←bJ];exact Bk.new wr _ _
   have aO:=KA' aN aA;have aP:=KA' aN aB;have dF:=BC' aN cF;have aD:=LS' bJ aA;have aE:=LS' bJ aB;have bK:w.heap.size+1≤wr.heap.size:=by rw[←bJ];exact Nat.le_trans cG (Nat.le_refl _)
   clear bJ;obtain⟨V3,aU⟩:=D9 (C2 V2 ⟨wr.heap.size,0,none⟩ (c8 kk));have aF:=P8' 32 aU aC (by simp) cH;have aQ:=KF' aU aO (by omega);have aG:=KF' aU aP (by omega);have dG:=BP' aU dF (by omega);have cK:=dW;have aR:=C8' 32 aC (by simp);rw[aN]at aR;have cL:kk.length=32:=cH;go_wp2_with fail;rw[←aN,←aU];clear cK aR cL;obtain⟨p4,cM⟩:=D9 (wr.heap.size);rw[←cM]at aF aD aE bK;try rw[←cM]
   have dI:w.heap.size+1≤V3.heap.size:=by have hz:=cG;rw[aU,aN];first | (simp;omega) | (simp[World.setCell];omega)
   clear aN aU cM cG aO aP aC dF;have S5:=Nq V3;refine Ij (fun W=>True) ?_;refine Cn (A:=?eD) [1,2] trivial (fun W hW=>?dX) ?eE;case dX=>
    exact Fa
   refine Cf [zb 0 12 [3],zs 3 15 3 [[3],(Z6 ks m),kk],zv 4 16 (A8 (Sb [[3],(Z6 ks m),kk]))] (by kernel_rfl) (fun W hW=>trivial) ?bL ?bM ?bN;case bL=>exact MO'
   case bM=>
    refine (Mp ⟨?cN,(Mp ⟨?cO,(Mp ⟨?cP,FN'⟩)⟩)⟩);case cN=>
     intro o ho us W hW hp Q' hQ';obtain rfl:=Option.some.inj ho;clear hp ho;rw[D8]at hQ' ⊢;dsimp only[C6,O6,List.foldl,zv,za,zs,zp,zb]at hQ' ⊢;simp only[Nv];go_wp2_with fail;exact FE' (hQ' _ _ (U7 _ _) (D7a W 3 _ rfl) nofun)
    case cO=>intro o ho us W hW hp Q' hQ';obtain rfl:=Option.some.inj ho;have aH:By W 0 W.heap.size (us 0) [3]:=hp 0 _ rfl (by kernel_rfl);obtain⟨A0,n0,c0,aV⟩:=aH.formE;rw[aV]at aH;have aH:=Lib.hid aH;clear hp ho;rw[D8]at hQ' ⊢;dsimp only[C6,O6,List.foldl,zv,za,zs,zp,zb]at hQ' ⊢;simp only[Nv];rw[aV]at hQ' ⊢;clear aV;have aI:=aG.drew.bl hW;have bO:=aF.drew.bl hW;go_wp2_with fail;exact FE' (hQ' _ _ (U7 _ _) ⟨_,rfl,(M6.three W _ _ _ _ [3] (Z6 ks m) kk aH.out (Bk.byAll (aI) (Cz ks m) (by decide)) (Bk.byAll (bO) cH (by decide))).more (by simp)⟩ nofun)
    case cP=>
     intro o ho us W hW hp Q' hQ';obtain rfl:=Option.some.inj ho;obtain⟨dJ,bP,bQ⟩:=hp 1 _ rfl (by kernel_rfl);have bP:us 3=.slice (some ⟨dJ,0,none⟩) 3 3:=bP;have bQ:M6 W W.heap.size (.slice (some ⟨dJ,0,none⟩) 3 3) [[3],(Z6 ks m),kk]:=by rw[←bP];exact bQ
     have bQ:=Lib.hid bQ;clear hp ho;rw[D8]at hQ' ⊢;dsimp only[C6,O6,List.foldl,zv,za,zs,zp,zb]at hQ' ⊢;simp only[Nv];rw[bP]at hQ' ⊢;clear bP;go_wp2_with fail;refine (C1l _ [[3],(Z6 ks m),kk] W bQ.out (D7r rfl (Cz ks m) cH (by decide))).mono ?_;rintro e W2 ⟨rfl,b2⟩;go_wp2_with fail;exact FE' (hQ' _ _ b2 rfl nofun)
   case bN=>
   intro us W6 b7 hg aW cQ;have bR:By W6 0 W6.heap.size (us 0) [3]:=hg _ (Yi 0 rfl);have bR:=Lib.hid bR;have bF:us 4=(A8 (Sb [[3],(Z6 ks m),kk])):=hg _ (Yi 2 rfl);have b8:=X4 S5 b7;refine RG' ?_;rw[bF];clear hg aW cQ bF b7 S5;have B6:=X4 dG b8;have z6:=Nat.le_trans dI b8.size;have bS:=aQ.bl b8;have aX:=aG.bl b8;clear b8 dG dI aQ aG aF;obtain⟨W9,bG⟩:=D9 (C2 W6 ⟨w.heap.size+1,0,none⟩ (c8 (Sb [[3],(Z6 ks m),kk])));have cR:Bk W9 (w.heap.size+1) 40 (c8 (Sb [[3],(Z6 ks m),kk])):=by rw[bG];exact Bk.put8 (aX) ((Cz ks m)) ((Cl [[3],(Z6 ks m),kk]))
   have cS:=KF' bG bS (by omega);have B9:=BP' bG B6 (by omega);have bT:=C8' 32 aX (Cz ks m);have bU:(Sb [[3],(Z6 ks m),kk]).length=32:=(Cl [[3],(Z6 ks m),kk]);refine Q6 5 fun Q' hQ'=>?_;dsimp only[C6];go_wp2_with fail;rw[←bG];refine hQ' _ _ trivial ?_;clear hQ' bT bU;have z9:=ZP' bG z6;clear bG B6 z6 bS aX;refine Gn ?_;go_wp2_with fail;go_roundw;case rel=>exact ⟨m+1,by omega,by omega,by go_num,cS,(by rw[HD.out];exact cR),B9,z9⟩
   case measure=>simp[intOf];omega
  ·
   obtain rfl:n=m:=by omega
   go_wp2_with fail;have dK:=Nq wr;refine Ij (fun W=>True) ?_;refine Cn (A:=?dY) [1,2,3,5] trivial (fun W hW=>?cT) ?dZ;case cT=>
    exact Fa
   refine Cf [zb 0 18 [2],zb 4 22 (J8 (UInt64.ofNat n)),zs 6 24 3 [[2],(J8 (UInt64.ofNat n)),(Z6 ks n)],zv 7 25 (A8 (Sb [[2],(J8 (UInt64.ofNat n)),(Z6 ks n)]))] (by kernel_rfl) (fun W hW=>trivial) ?aY ?aZ ?bA;case aY=>exact MO'
   case aZ=>
    refine (Mp ⟨?bX,(Mp ⟨?bY,(Mp ⟨?bZ,(Mp ⟨?cA,FN'⟩)⟩)⟩)⟩);case bX=>
     intro o ho us W hW hp Q' hQ';obtain rfl:=Option.some.inj ho;clear hp ho;rw[D8]at hQ' ⊢;dsimp only[C6,O6,List.foldl,zv,za,zs,zp,zb]at hQ' ⊢;simp only[Nv];go_wp2_with fail;exact FE' (hQ' _ _ (U7 _ _) (D7a W 2 _ rfl) nofun)
    case bY=>intro o ho us W hW hp Q' hQ';obtain rfl:=Option.some.inj ho;clear hp ho;rw[D8]at hQ' ⊢;dsimp only[C6,O6,List.foldl,zv,za,zs,zp,zb]at hQ' ⊢;simp only[Nv];go_wp2_with fail;refine (Cu (.slice none 0 0) [] (UInt64.ofNat n) W (.inl ⟨rfl,rfl⟩) (by simp)).mono ?_;rintro e W2 ⟨v2,rfl,cU,b2⟩;have cU:=Lib.hid cU;go_wp2_with fail;exact FE' (hQ' _ _ b2 cU.out.up nofun)
    case bZ=>intro o ho us W hW hp Q' hQ';obtain rfl:=Option.some.inj ho;have aH:By W 0 W.heap.size (us 0) [2]:=hp 0 _ rfl (by kernel_rfl);obtain⟨A0,n0,c0,aV⟩:=aH.formE;rw[aV]at aH;have aH:=Lib.hid aH;have aS:By W 0 W.heap.size (us 4) (J8 (UInt64.ofNat n)):=hp 1 _ rfl (by kernel_rfl);obtain⟨A4,n4,c4,bF⟩:=aS.formE;rw[bF]at aS;have aS:=Lib.hid aS;clear hp ho;rw[D8]at hQ' ⊢;dsimp only[C6,O6,List.foldl,zv,za,zs,zp,zb]at hQ' ⊢;simp only[Nv];rw[aV,bF]at hQ' ⊢;clear aV bF;have aI:=aB.drew.bl hW;go_wp2_with fail;exact FE' (hQ' _ _ (U7 _ _) ⟨_,rfl,(M6.three W _ _ _ _ [2] (J8 (UInt64.ofNat n)) (Z6 ks n) aH.out aS.out (Bk.byAll (aI) (Cz ks n) (by decide))).more (by simp)⟩ nofun)
    case cA=>
     intro o ho us W hW hp Q' hQ';obtain rfl:=Option.some.inj ho;have aS:By W 0 W.heap.size (us 4) (J8 (UInt64.ofNat n)):=hp 1 _ rfl (by kernel_rfl);have aS:=Lib.hid aS;obtain⟨dL,cB,cC⟩:=hp 2 _ rfl (by kernel_rfl);have cB:us 6=.slice (some ⟨dL,0,none⟩) 3 3:=cB;have cC:M6 W W.heap.size (.slice (some ⟨dL,0,none⟩) 3 3) [[2],(J8 (UInt64.ofNat n)),(Z6 ks n)]:=by rw[←cB];exact cC
     have cC:=Lib.hid cC;clear hp ho;rw[D8]at hQ' ⊢;dsimp only[C6,O6,List.foldl,zv,za,zs,zp,zb]at hQ' ⊢;simp only[Nv];rw[cB]at hQ' ⊢;clear cB;go_wp2_with fail;refine (C1l _ [[2],(J8 (UInt64.ofNat n)),(Z6 ks n)] W cC.out (D7r rfl (Q9 (UInt64.ofNat n)) (Cz ks n) (by decide))).mono ?_;rintro e W2 ⟨rfl,b2⟩;go_wp2_with fail;exact FE' (hQ' _ _ b2 rfl nofun)
   case bA=>
   intro us cD dM hg aW cQ;have bR:By cD 0 cD.heap.size (us 0) [2]:=hg _ (Yi 0 rfl);have bR:=Lib.hid bR;have dO:By cD 0 cD.heap.size (us 4) (J8 (UInt64.ofNat n)):=hg _ (Yi 1 rfl);have dO:=Lib.hid dO;have dQ:us 7=(A8 (Sb [[2],(J8 (UInt64.ofNat n)),(Z6 ks n)])):=hg _ (Yi 3 rfl);have cV:=X4 dK dM;refine RG' ?_;rw[dQ];clear hg aW cQ dQ dM dK;have dS:=X4 cF cV;have aJ:=aA.bl cV;clear cV cF cG aA aB;obtain⟨eF,aK⟩:=D9 (C2 cD ⟨w.heap.size,0,none⟩ (c8 (Sb [[2],(J8 (UInt64.ofNat n)),(Z6 ks n)])));have cE:=P8' 32 aK aJ (by simp) (Cl [[2],(J8 (UInt64.ofNat n)),(Z6 ks n)]);have eA:=BP' aK dS (by omega);have bB:=C8' 32 aJ (by simp);have bC:(Sb [[2],(J8 (UInt64.ofNat n)),(Z6 ks n)]).length=32:=(Cl [[2],(J8 (UInt64.ofNat n)),(Z6 ks n)]);refine Q6 8 fun Q' hQ'=>?_;dsimp only[C6];go_wp2_with fail;rw[←aK];refine hQ' _ _ trivial ?_;clear hQ' bB bC;clear aK dS aJ;refine Gn ?_;go_wp2_with fail;have cW:(Sb [[2],(J8 (UInt64.ofNat n)),(Z6 ks n)]).length=32:=(Cl [[2],(J8 (UInt64.ofNat n)),(Z6 ks n)]);refine bodyPost_ret (C7 rfl _ _ _ _ _ _ rfl cE Tryz.underlying40 rfl (by simp[H9,cW])) rfl ⟨by rw[HE.out];rfl,eA⟩
theorem Hs.at_ {w:World} {B:Nat} {A:Option Addr} {n c:Nat} {ks:List (List UInt8)} (h:Hs w 0 B (.slice A n c) ks) {m:Nat} {k:List UInt8} (hk:ks[m]?=some k):∃g o,A=some ⟨g,o,none⟩∧g<B∧C4 w ⟨g,o+m*32,none⟩ 32=some (c8 k):=by
 obtain⟨g,o,c',hh⟩:=h.row;rcases hh with ⟨hr,_,hg,hA,_,_⟩ | h0
 ·injection hA with hA;exact ⟨g,o,hA,hg,hr m k hk⟩
 ·rw[h0]at hk;simp at hk
theorem Mj (va vb:Value) (ks:List (List UInt8)) (w:World) (ha:Hs w 0 w.heap.size va ks) (hb:Hs w 0 w.heap.size vb ks):Calls Tryz.prog 14 #[va,vb] w fun e w'=>e=.returned (.bool true)∧Below w.heap.size w w':=by
 obtain⟨A,c,rfl,aE,aI⟩:=ha.form;obtain⟨A',c',rfl,aA,aF⟩:=hb.form;have HA:=Lib.hid ha;have HB:=Lib.hid hb;have aG:=Lib.hid ha.1;obtain⟨n,hn⟩:=D9 (ks.length);have HN:=Lib.hid hn;rw[←hn]at aE aA HA HB ⊢;clear ha hb hn;go_enter Tryz.func14,Tryz.ntmps14;go_wp2_with fail;go_loopw [13] (fun x wr=>∃m:Nat,m≤n∧x=.int .i64 (m:Int)∧Below w.heap.size w wr) (fun x _=>n-(intOf x).toNat)
 case atStart=>exact ⟨0,by omega,rfl,Below.refl _ _⟩
 case round=>
  obtain⟨m,hm,rfl,Br⟩:=hrel;by_cases hlt:m<n
  ·have hd:decide ((m:Int)<(n:Int))=true:=decide_eq_true (by omega);have aB:m<ks.length:=by rw[←HN.out];exact hlt
   obtain⟨k,hk⟩:∃k,ks[m]?=some k:=⟨_,List.getElem?_eq_getElem aB⟩;have aJ:=aG.out k (List.mem_of_getElem? hk);obtain⟨g,o,rfl,hg,hr⟩:=HA.out.at_ hk;obtain⟨g',o',rfl,aH,aC⟩:=HB.out.at_ hk;have r1:=(Gj (a:=⟨g,o+m*32,none⟩) Br hg).trans hr;have r2:=(Gj (a:=⟨g',o'+m*32,none⟩) Br aH).trans aC;have aD:(m:Int)<(n:Int):=by omega
   clear hk hr aC aB;go_wp2_with fail;go_quiet (fail);go_wp2_with fail;go_roundw;case rel=>exact ⟨m+1,by omega,by go_num,P7 Br _⟩
   case measure=>simp[intOf];omega
  ·obtain rfl:m=n:=by omega
   go_wp2_with fail;go_ret;exact ⟨rfl,Br⟩
end Go.Proofs.YtmllnpokbbabhaaGreat
