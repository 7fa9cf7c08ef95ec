/- A part of the proof of DirOrder. -/
import Derived.Outline
import Derived.Maps.AppendAt
import Derived.Test.YtlegpkdighoflaaGreatQax
import Derived.Test.YtlegpkdighoflaaGreatQaw
set_option linter.unusedVariables false
set_option linter.unusedSimpArgs false
set_option maxRecDepth 100000
set_option maxHeartbeats 40000000
namespace Go.Proofs.YtlegpkdighoflaaGreat
open Go Go.RowKit Sh
section
def pb (p:Pr):List UInt8:=p.1++p.2
def Mg (p:Pr):Prop:=p.1.length=32∧p.2.length=32
theorem Mg.len {p:Pr} (h:Mg p):(pb p).length=64:=by unfold pb;rw[List.length_append,h.1,h.2]
section
variable {w w' : World} {lo lo' B B' : Nat} {v : Value} {l : List Pr}
end
theorem D2m:(Tryz.prog.info? 96).map (fun i=>(i.zero,i.size,i.bytes))=some (some (A8 (z8 64)),64,64):=by kernel_rfl
theorem C4j:(Tryz.prog.info? 96).map (·.size)=some 64:=by kernel_rfl
theorem C3z:((Tryz.prog.info? 96).bind (·.zero))=some (A8 (z8 64)):=by kernel_rfl
theorem B0f:Tryz.prog.underlying 96=some (.struct (U1 Tryz.prog 96)):=by kernel_rfl
theorem C1f (w:World):(Ep (U1 Tryz.prog 96)).run Tryz.prog w=.ok #[(0,32),(32,32)] w:=by kernel_rfl
def Le (n:Nat) (t:TypeId) (w:World) (raw:Result Next):Value→Result Next
 | .agg cs=>if cs.size=n then .ok (.value (.slice (some ⟨w.heap.size,0,none⟩) 1 1)) (w.alloc (.cells cs t)) else raw
 | _=>raw
@[go_sem] theorem D4b (n : Nat) (t : TypeId) (w : World) (raw : Result Next) (l : List UInt8) : Le n t w raw (A8 l) = if l.length = n then .ok (.value (.slice (some ⟨w.heap.size, 0, none⟩) 1 1)) (w.alloc (.cells (c8 l).toArray t)) else raw := by
 have e:Le n t w raw (A8 l)=if (c8 l).toArray.size=n then .ok (.value (.slice (some ⟨w.heap.size,0,none⟩) 1 1)) (w.alloc (.cells (c8 l).toArray t)) else raw:=rfl;rw[e];simp only[List.size_toArray,I7]
theorem B5f {P:Program} (w:World) (ρ:Operand→Value) (dst:Option Tmp) (ty:TypeId) (pos:String) (after:Array Edge) (guard:Option (Nat×Bool)) (t e n:Nat) (z:Value) (x:Operand)
 (ht:P.underlying t=some (.slice e)) (hi:(P.info? e).map (fun i=>(i.zero,i.size,i.bytes))=some (some z,n,n)) (hz:z.cells.size=n) (hn:n≤16777216) (hp:n≠0) :
 (execOp ρ { dst,op:=.buildSlice t 1 #[(0,x)],type:=ty,pos,after,guard }).run P w=Le n e w (N8 P ρ { dst,op:=.buildSlice t 1 #[(0,x)],type:=ty,pos,after,guard } w) (ρ x):=by
 generalize hv:ρ x=v;unfold Le;split
 ·rename_i cs
  split
  ·rename_i hcs
   cases hq:P.info? e with
   | none=>simp[hq]at hi
   | some i=>
    simp only[hq,Option.map_some,Option.some.injEq,Prod.mk.injEq]at hi;obtain⟨h1,h2,_⟩:=hi;have hf:Instr.fill (fun i=>some (i*n,n)) ((Array.range (1*n)).map (fun j=>z.cells[j % z.cells.size]!)) [(0,Value.agg cs)]=some cs:=by
     have aA:((Array.range (1*n)).map (fun j=>z.cells[j % z.cells.size]!)).size=n:=by simp
     generalize (Array.range (1*n)).map (fun j=>z.cells[j % z.cells.size]!)=m at *;have h3:=Pg (fun i=>some (i*n,n)) [(0,Value.agg cs)] [(0,cs.toList)] m.toList ⟨by simp[hcs],rfl,by simp[hcs,aA],trivial⟩;rw[Array.toArray_toList]at h3;rw[h3];simp[Fs,Af,hcs,aA,List.drop_eq_nil_of_le]
    have aB:¬ (16777216<n):=by omega
    have hr:(Instr.buildSlice t 1 #[(0,Value.agg cs)]).run P w=.ok (.slice (some ⟨w.heap.size,0,none⟩) 1 1) (w.alloc (.cells cs e)):=by unfold Instr.buildSlice;simp only[Sem.run_bind,run_underlying ht,Result.andThen_ok,sizeOf,typeInfo,Sem.run_pure];simp only[Nat.one_mul]at hf;simp[hq,h2,aB,hp,zeroValue,typeInfo,h1,newRow];rw[hf];rfl
    simp only[execOp,List.map_toArray,List.map_cons,List.map_nil,hv,Sem.run_bind,hr,Result.andThen_ok,Sem.run_pure]
  ·rfl
 ·rfl
section
variable (w : World) (ρ : Operand → Value) (dst : Option Tmp) (ty : TypeId) (pos : String) (after : Array Edge) (guard : Option (Nat × Bool))
@[go_sem ↓ high] theorem C9o:RL' 96 64:=LL' B0f C4j
@[go_sem ↓ high] theorem C5j:RS' 96 64:=SS' C4j
@[go_sem ↓ high] theorem C5g:RA' 96 (c8 (z8 64)).toArray:=fun w ρ dst ty pos after guard=>Q0 w ρ dst ty pos after guard 96 (A8 (z8 64)) C3z
@[go_sem ↓ high] theorem D3a:RB' 96:=BX' _
@[go_sem ↓ high] theorem D5h (x : Operand) :
 (execOp ρ { dst,op:=.buildSlice 52 1 #[(0,x)],type:=ty,pos,after,guard }).run Tryz.prog w=Le 64 96 w (N8 Tryz.prog ρ { dst,op:=.buildSlice 52 1 #[(0,x)],type:=ty,pos,after,guard } w) (ρ x):=
 B5f w ρ dst ty pos after guard 52 96 64 (A8 (z8 64)) x Tryz.underlying52 D2m (by simp[A8,Value.cells]) (by decide) (by decide)
end
noncomputable def Tc (w:World) (raw:Result Next) (k v:Value):Result Next:=
 match Cj k,Cj v with
 | some k,some v=>if k.length=32∧v.length=32 then .ok (.value (A8 (pb (k,v)))) w else raw
 | _,_=>raw
@[go_sem] theorem C8r (w : World) (raw : Result Next) (k v : List UInt8) (hk : k.length = 32) (hv : v.length = 32) : Tc w raw (A8 k) (A8 v) = .ok (.value (A8 (pb (k, v)))) w := by
 unfold Tc;rw[Cy,Cy];simp[hk,hv]
theorem B8q (k v:List UInt8) (hk:k.length=32) (hv:v.length=32) (w:World):(Instr.build 96 #[(0,A8 k),(1,A8 v)]).run Tryz.prog w=.ok (A8 (pb (k,v))) w:=by
 have hz:(A8 (z8 64)).cells.toList=c8 (z8 64):=rfl;have hl:(c8 (z8 64)).length=64:=by simp
 have h1:=U5 B0f C3z w (C1f w) #[(0,A8 k),(1,A8 v)] [(0,c8 k),(32,c8 v)] (by
  rw[hz,hl];exact ⟨by simp[hk],rfl,by simp[hk],by simp[hv],rfl,by simp[hv],trivial⟩)
 refine h1.trans (congrArg (fun (cs:List Value)=>Result.ok (Value.agg cs.toArray) w) ?_);rw[hz];simp[Fs,Af,hk,hv,List.take_append,List.drop_append,List.drop_eq_nil_of_le,List.take_of_length_le,pb,c8]
@[go_sem ↓ high] theorem C6o (w : World) (ρ : Operand → Value) (dst : Option Tmp) (ty : TypeId) (pos : String) (after : Array Edge) (guard : Option (Nat × Bool)) (x y : Operand) :
 (execOp ρ { dst,op:=.build 96 #[(0,x),(1,y)],type:=ty,pos,after,guard }).run Tryz.prog w=Tc w (N8 Tryz.prog ρ { dst,op:=.build 96 #[(0,x),(1,y)],type:=ty,pos,after,guard } w) (ρ x) (ρ y):=by
 generalize hx:ρ x=a;generalize hy:ρ y=b;unfold Tc;split
 ·rename_i k v h1 h2
  replace h1:=U7 h1;replace h2:=U7 h2;split
  ·rename_i h
   refine P5 w ρ dst ty pos after guard _ _ _ ?_;simp only[List.map_toArray,List.map_cons,List.map_nil,hx,hy,h1,h2];exact B8q k v h.1 h.2 w
  ·rfl
 ·rfl
section
variable {w : World} {g : Nat} {t : TypeId} {p : Pr}
theorem Oh (h:Bk w g t (c8 (pb p))) (hp:Mg p):I6 w ⟨g,0,none⟩ 32=some (c8 p.1):=by
 have:=h.rowMid 0 32 (by rw[I7,hp.len];omega);rw[this];simp[pb,c8,hp.1]
theorem Ss (h:Bk w g t (c8 (pb p))) (hp:Mg p):I6 w ⟨g,32,none⟩ 32=some (c8 p.2):=by
 have:=h.rowMid 32 32 (by rw[I7,hp.len];omega);rw[this];simp[pb,c8,hp.1,hp.2,List.take_of_length_le]
theorem Bk.fresh (w:World) (t:TypeId) {l m:List UInt8} (h:l.length=m.length):Bk (E0 (w.alloc (.cells (c8 l).toArray t)) ⟨w.heap.size,0,none⟩ (c8 m)) w.heap.size t (c8 m):=(Bk.new w t (c8 l)).puts (by simp[h])
@[go_sem] theorem C9r (w : World) (t : TypeId) (p : Pr) (hp : Mg p) : I6 (w.alloc (.cells (c8 (pb p)).toArray t)) ⟨w.heap.size, 0, none⟩ 32 = some (c8 p.1) := Oh (Bk.new w t _) hp
@[go_sem] theorem D0f (w : World) (t : TypeId) (p : Pr) (hp : Mg p) : I6 (w.alloc (.cells (c8 (pb p)).toArray t)) ⟨w.heap.size, 32, none⟩ 32 = some (c8 p.2) := Ss (Bk.new w t _) hp
end
section
variable {w : World} {base : Nat} {v : Value} {l : List Pr} {ops : Array Oper} {rest : List Oper} {o : Oper} {a : Act} {Q : Exit → Act → World → Prop}
end
end
section
open Classical in
noncomputable def Gb (a b:List UInt8):Bool:=decide (klt a b)
theorem X4 {a b:List UInt8}:Gb a b=true↔klt a b:=by unfold Gb;simp
noncomputable def D7b (k:List UInt8) (m:List Pr):Bool:=m.any fun q=>!Gb q.1 k
noncomputable def D5v (k x:List UInt8) (m:List Pr):List Pr:=(m.filter fun q=>Gb q.1 k)++(if D7b k m then [(k,x)] else [])++(m.filter fun q=>Gb k q.1)
noncomputable def A4s (k x:List UInt8) (m:List Pr):List Pr:=(m.filter fun q=>Gb q.1 k)++[(k,x)]++(m.filter fun q=>Gb k q.1)
def C0o (l:List Pr):Prop:=(∀p∈l,p.1.length=32∧p.2.length=32)∧l.Pairwise fun x y=>klt x.1 y.1
section
variable {k x : List UInt8} {m : List Pr} {q : Pr}
theorem D8b (hk:k.length=32) (hx:x.length=32) (h:∀p∈m,p.1.length=32∧p.2.length=32):∀p∈D5v k x m,p.1.length=32∧p.2.length=32:=by
 intro p hp;unfold D5v at hp;simp only[List.mem_append,List.mem_filter]at hp;rcases hp with (hp | hp) | hp
 ·exact h p hp.1
 ·split at hp
  ·simp at hp;subst hp;exact ⟨hk,hx⟩
  ·simp at hp
 ·exact h p hp.1
theorem B1s (hk:k.length=32) (hx:x.length=32) (h:C0o m):C0o (A4s k x m):=by
 constructor
 ·intro p hp;simp only[A4s,List.mem_append,List.mem_filter,List.mem_singleton]at hp;rcases hp with (hp | rfl) | hp
  ·exact h.1 p hp.1
  ·exact ⟨hk,hx⟩
  ·exact h.1 p hp.1
 ·unfold A4s;rw[List.pairwise_append,List.pairwise_append];refine ⟨⟨h.2.filter _,List.pairwise_singleton _ _,fun a ha b hb=>?_⟩,h.2.filter _,fun a ha b hb=>?_⟩
  ·simp at hb;subst hb;exact X4.1 (List.mem_filter.1 ha).2
  ·have aA:=X4.1 (List.mem_filter.1 hb).2;rcases List.mem_append.1 ha with ha | ha
   ·exact (X4.1 (List.mem_filter.1 ha).2).trans aA
   ·simp at ha;subst ha;exact aA
theorem B8h (hk:k.length=32) (h:C0o m) (p:Pr):p∈A4s k x m↔p=(k,x)∨(p∈m∧p.1≠k):=by
 simp only[A4s,List.mem_append,List.mem_filter,List.mem_singleton];constructor
 ·rintro ((⟨h1,h2⟩ | rfl) | ⟨h1,h2⟩)
  ·exact .inr ⟨h1,(X4.1 h2).ne⟩
  ·exact .inl rfl
  ·exact .inr ⟨h1,fun e=>(X4.1 h2).ne e.symm⟩
 ·rintro (rfl | ⟨h1,h2⟩)
  ·exact .inl (.inr rfl)
  ·rcases klt.total (h.1 p h1).1 hk h2 with h3 | h3
   ·exact .inl (.inl ⟨h1,X4.2 h3⟩)
   ·exact .inr ⟨h1,X4.2 h3⟩
end
theorem Ok.rise {t:Tr} {d:Nat} {P:Nat→Bool} (ok:Ok d P t):C0o t.pairs:=⟨fun p hp=>⟨(Ok.keys ok p hp).1,(Ok.keys ok p hp).2.1⟩,ok.sorted⟩
theorem B1i {k x:List UInt8} {t:Tr} {P:Nat→Bool} (hk:k.length=32) (hx:x.length=32) (ok:Ok 0 P t):A4s k x t.pairs=(Hy k x 256 0 t).pairs:=by
 have hi:=Nv k x hk hx 256 0 t P (by omega) (fun i hi=>by omega) ok;refine Qw (B1s hk hx ok.rise).2 hi.sorted fun p=>?_;rw[B8h hk ok.rise,Fz k x hk 256 0 t P (by omega) (fun i hi=>by omega) ok]
end
theorem Lg {α:Type} {l:List α} {i:Nat} {q:α} (h:l[i]?=some q):l.take (i+1)=l.take i++[q]:=by rw[List.take_add_one,h];rfl
theorem By.of_row {w:World} {g o n:Nat} {l:List UInt8} (h:I6 w ⟨g,o,none⟩ n=some (c8 l)) (hg:g<w.heap.size) (hn:n≤9223372036854775807):By w 0 w.heap.size (.slice (some ⟨g,o,none⟩) n n) l:=by
 obtain⟨h1,h2⟩:=Iy.1 h;rw[I7]at h1;subst h1;exact By.mk_ (Nat.le_refl _) (by unfold maxLen;exact hn) (.inr ⟨g,o,rfl,Nat.zero_le _,hg,fun j u hj=>h2 j u hj⟩)
section
def P0:Nat→Bool:=fun _=>false
def Okt (t:Tr):Prop:=Ok 0 P0 t
def Xu (t:Tr) (k v:List UInt8):Tr:=Hy k v 256 0 t
def E2o (l:List Pr) (t:Tr):Tr:=l.foldl (fun t p=>Xu t p.1 p.2) t
section
variable {t : Tr} {k v : List UInt8}
theorem Okt.put (ok:Okt t) (hk:k.length=32) (hv:v.length=32):Okt (Xu t k v):=Nv k v hk hv 256 0 t P0 (by omega) (fun i hi=>by omega) ok
theorem D6t (ok:Okt t) (hk:k.length=32) (x:Pr):x∈(Xu t k v).pairs↔x=(k,v)∨(x∈t.pairs∧x.1≠k):=Fz k v hk 256 0 t P0 (by omega) (fun i hi=>by omega) ok x
theorem B4p (ok:Okt t) (hk:k.length=32):(Xu t k v).len≤t.len+1:=by
 unfold Xu;rw[Bs k v hk 256 0 t P0 (by omega) (fun i hi=>by omega) ok];split<;>omega
theorem Okt.nil:Okt .e:=trivial
end
end
section
section
variable {w : World} {base : Nat} {v : Value} {e : TypeId} {sz n : Nat} {xs : List Value}
theorem Ez (h:w.ownsRow base e sz v n xs):∃A c,v=.slice A n c∧n≤c∧c≤9223372036854775807:=by
 rcases h.2 with ⟨rfl,rfl⟩ | ⟨g,cap,cur,rfl,_,_,h1,h2,_⟩
 ·exact ⟨none,0,rfl,Nat.le_refl _,by omega⟩
 ·exact ⟨_,cap,rfl,h1,by unfold maxLen at h2;exact h2⟩
theorem Qb {w':World} {B:Nat} (h:w.ownsRow base e sz v n xs) (hb:Below B w w') (hB:w.heap.size≤B):w'.ownsRow base e sz v n xs:=by
 refine World.ownsRow.kept (row:=none) h ⟨hb.os,hb.tape,hb.output,hb.size,fun k hk _=>hb.block k (by omega)⟩ ?_;cases hv:v.ownBlock<;>simp
theorem A7m {n' c:Nat} {A:Option Addr} (h:w.ownsRow base e sz (.slice A n' c) n xs):Rd w base w.heap.size A xs:=by
 rcases h.2 with ⟨hv,hn⟩ | ⟨g,cap,cur,hv,hbg,hh,_⟩
 ·subst hn;exact .inl (List.eq_nil_of_length_eq_zero (by rw[h.1,Nat.zero_mul]))
 ·have hA:A=Option.some ⟨g,0,none⟩:=by injection hv
  subst hA;refine .inr ⟨g,0,rfl,hbg,(Array.getElem?_eq_some_iff.1 hh).1,fun j u hu=>?_⟩;have:=h.cells (g:=g) rfl j u hu;rwa [Bq]at this
variable {P : Program} {ops : Array Oper} {rest : List Oper} {o : Oper} {a : Act} {Q : Exit → Act → World → Prop}
theorem B9u (t:TypeId) (z:Value) (bytes:Nat) (ht:P.underlying t=some (.slice e)) (hinf:(P.info? e).map (fun i=>(i.zero,i.size,i.bytes))=some (some z,sz,bytes)) (hzs:z.cells.size=sz) (hpos:0<sz) (hby:bytes≤1024)
 (hgd:o.guard=none) (s x:Operand) (ho:o.op=.call { callee:=.builtin .append,args:=#[s,x],argTypes:=#[t,t] })
 (hs:a.eval s=v) (hown:w.ownsRow base e sz v n xs) (A:Option Addr) (m c:Nat) (hx:a.eval x=.slice A m c) (ys:List Value) (hl:ys.length=m*sz) (lo B:Nat) (hrd:Rd w lo B A ys) (hone:∀u∈ys,u.oneCell'=true) (hsz:n+m≤68719476736) (hb:base≤w.heap.size)
 (h:∀A' c' w',n+m≤c'→c'≤9223372036854775807→w'.ownsRow base e sz (.slice A' (n+m) c') (n+m) (xs++ys)→Below base w w'→w.grownBy w' v.ownBlock→((Value.slice A' (n+m) c').ownBlock=v.ownBlock∨(Value.slice A' (n+m) c').ownBlock=some w.heap.size)→wpList P ops Q rest (a.put o.dst (.slice A' (n+m) c')) w'):wpList P ops Q (o::rest) a w:=
 wpList_plain hgd fun _ hK=>by
  obtain⟨i0,aC,aD,aE,aF⟩:=info_parts hinf;have aB:(n+m)*bytes≤140737488355328:=by
   have:=Nat.mul_le_mul hsz hby;omega
  have aG:∃v' w',(Builtin.append_ #[t,t] o.type #[v,.slice A m c]).run P w=.ok v' w'∧w'.ownsRow base e sz v' (n+m) (xs++ys)∧w.grownBy w' v.ownBlock∧(v'.ownBlock=v.ownBlock∨v'.ownBlock=some w.heap.size):=by
   have aA:∀ad:Addr,(∀j u,ys[j]?=some u→w.cell? (ad.add j)=some u)→∃v' w',(Builtin.append_ #[t,t] o.type #[v,.slice (some ad) m c]).run P w=.ok v' w'∧w'.ownsRow base e sz v' (n+m) (xs++ys)∧w.grownBy w' v.ownBlock∧(v'.ownBlock=v.ownBlock∨v'.ownBlock=some w.heap.size):=by intro ad hc;obtain⟨v',w',h5,h6,h7,_,h8⟩:=run_append_own_at (P:=P) w base t o.type e i0 z sz bytes ht aC aD aE aF hzs hpos v n xs hown ad m c ys hl hc hone (by simp only[maxLen];omega) aB hb;exact ⟨v',w',h5,h6,h7,h8⟩
   rcases hrd with hy | ⟨g,of,rfl,_,_,hc⟩
   ·subst hy;have hm:m=0:=by
     have h0:m*sz=0:=by rw[←hl];rfl
     rcases Nat.mul_eq_zero.1 h0 with h | h
     ·exact h
     ·omega
    subst hm;cases A with
    | some ad=>exact aA ad (by simp)
    | none=>exact ⟨v,w,Mp w base _ o.type _ i0 sz ht aC v _ _ hown c,by simpa using hown,World.grownBy.refl w _,.inl rfl⟩
   ·exact aA ⟨g,of,none⟩ (fun j u hj=>by rw[Bq];exact hc j u hj)
  obtain⟨v',w',hr,h2,h3,h4⟩:=aG;unfold Oper.wp execOp;simp only[ho,resolve,invoke,builtin,Sem.run_bind,Sem.run_pure,Result.andThen_ok,List.map_toArray,List.map_cons,List.map_nil,hs,hx,hr];obtain⟨A',c',rfl,aH,aI⟩:=Ez h2;exact hK _ _ (h A' c' w' aH aI h2 ((Below.refl _ _).grown h3 hb fun k hk=>(hown.lt k hk).1) h3 h4)
end
theorem Ug {P:Program} (w:World) (ρ:Operand→Value) (dst:Option Tmp) (ty:TypeId) (pos:String) (after:Array Edge) (guard:Option (Nat×Bool)) (t e n by_:Nat) (z:Value) (x:Operand)
 (ht:P.underlying t=some (.slice e)) (hi:(P.info? e).map (fun i=>(i.zero,i.size,i.bytes))=some (some z,n,by_)) (hz:z.cells.size=n) (hn:n≤16777216) (hp:n≠0) :
 (execOp ρ { dst,op:=.buildSlice t 1 #[(0,x)],type:=ty,pos,after,guard }).run P w=Le n e w (N8 P ρ { dst,op:=.buildSlice t 1 #[(0,x)],type:=ty,pos,after,guard } w) (ρ x):=by
 generalize hv:ρ x=v;unfold Le;split
 ·rename_i cs
  split
  ·rename_i hcs
   cases hq:P.info? e with
   | none=>simp[hq]at hi
   | some i=>
    simp only[hq,Option.map_some,Option.some.injEq,Prod.mk.injEq]at hi;obtain⟨h1,h2,_⟩:=hi;have hf:Instr.fill (fun i=>some (i*n,n)) ((Array.range (1*n)).map (fun j=>z.cells[j % z.cells.size]!)) [(0,Value.agg cs)]=some cs:=by
     have aA:((Array.range (1*n)).map (fun j=>z.cells[j % z.cells.size]!)).size=n:=by simp
     generalize (Array.range (1*n)).map (fun j=>z.cells[j % z.cells.size]!)=m at *;have h3:=Pg (fun i=>some (i*n,n)) [(0,Value.agg cs)] [(0,cs.toList)] m.toList ⟨by simp[hcs],rfl,by simp[hcs,aA],trivial⟩;rw[Array.toArray_toList]at h3;rw[h3];simp[Fs,Af,hcs,aA,List.drop_eq_nil_of_le]
    have aB:¬ (16777216<n):=by omega
    have hr:(Instr.buildSlice t 1 #[(0,Value.agg cs)]).run P w=.ok (.slice (some ⟨w.heap.size,0,none⟩) 1 1) (w.alloc (.cells cs e)):=by unfold Instr.buildSlice;simp only[Sem.run_bind,run_underlying ht,Result.andThen_ok,sizeOf,typeInfo,Sem.run_pure];simp only[Nat.one_mul]at hf;simp[hq,h2,aB,hp,zeroValue,typeInfo,h1,newRow];rw[hf];rfl
    simp only[execOp,List.map_toArray,List.map_cons,List.map_nil,hv,Sem.run_bind,hr,Result.andThen_ok,Sem.run_pure]
  ·rfl
 ·rfl
def Hs (w:World) (lo B:Nat) (v:Value) (l:List (List UInt8)):Prop:=(∀k∈l,k.length=32)∧∃A c,v=.slice A l.length c∧l.length≤c∧c≤maxLen∧Rd w lo B A (c8 l.flatten)
section
variable {w w' : World} {lo lo' B B' : Nat} {v : Value} {l : List (List UInt8)}
theorem Hs.below (h:Hs w lo B v l) (hb:Below B w w'):Hs w' lo B v l:=let ⟨h0,A,c,h1,h2,h3,h4⟩:=h;⟨h0,A,c,h1,h2,h3,h4.below hb⟩
theorem Hs.more (h:Hs w lo B v l) (hB:B≤B'):Hs w lo B' v l:=let ⟨h0,A,c,h1,h2,h3,h4⟩:=h;⟨h0,A,c,h1,h2,h3,h4.more hB⟩
theorem Hs.form (h:Hs w lo B v l):∃A c,v=.slice A l.length c∧l.length≤c∧c≤9223372036854775807:=by
 obtain⟨_,A,c,h1,h2,h3,_⟩:=h;exact ⟨A,c,h1,h2,by unfold maxLen at h3;exact h3⟩
theorem Az {l:List (List UInt8)} (h:∀k∈l,k.length=32):l.flatten.length=l.length*32:=by
 induction l with
 | nil=>rfl
 | cons k l ih=>
  have h1:=ih fun q hq=>h q (by simp[hq]);have h2:=h k (by simp);simp only[List.flatten_cons,List.length_append,List.length_cons]at h1 ⊢;omega
theorem A3m {l:List (List UInt8)} (h:∀k∈l,k.length=32):∀ {i:Nat} {k:List UInt8},l[i]?=some k→(l.flatten.drop (i*32)).take 32=k:=by
 induction l with
 | nil=>intro i p hp;simp at hp
 | cons q l ih=>
  intro i p hp;have h2:=h q (by simp);cases i with
  | zero=>
   simp at hp;subst hp;simp only[List.flatten_cons,Nat.zero_mul,List.drop_zero];rw[←h2,List.take_left]
  | succ i=>
   have:=ih (fun q hq=>h q (by simp[hq])) (i:=i) (k:=p) (by simpa using hp);simp only[List.flatten_cons];rw[show (i+1)*32=q.length+i*32 by omega,←List.drop_drop,List.drop_left];exact this
theorem Hs.row (h:Hs w lo B v l):∃g o c,(∀i k,l[i]?=some k→I6 w ⟨g,o+i*32,none⟩ 32=some (c8 k))∧lo≤g∧g<B∧v=.slice (some ⟨g,o,none⟩) l.length c∧l.length≤c∧c≤9223372036854775807∨l=[]:=by
 obtain⟨h0,A,c,h1,h2,h3,h4⟩:=h;rcases Nat.eq_zero_or_pos l.length with h5 | h5
 ·exact ⟨0,0,0,.inr (List.eq_nil_of_length_eq_zero h5)⟩
 ·obtain⟨g,o,rfl,hl,hb,hc⟩:=h4.some (by rw[I7,Az h0];omega);refine ⟨g,o,c,.inl ⟨fun i k hk=>?_,hl,hb,h1,h2,by unfold maxLen at h3;exact h3⟩⟩;have aB:=A3m h0 hk;have aA:=h0 k (List.mem_of_getElem? hk);refine Iy.2 ⟨by rw[I7,aA],fun j u hj=>?_⟩;have aC:j<32:=by have:=(List.getElem?_eq_some_iff.1 hj).1;rw[I7,aA]at this;exact this
  rw[Nat.add_assoc];refine hc _ _ ?_;rw[←hj,←aB];simp only[c8,List.getElem?_map,List.getElem?_take,List.getElem?_drop,if_pos aC]
end
@[go_sem] theorem B0v (n : Nat) (t : TypeId) (w : World) (raw : Result Next) (cs : Array Value) : Le n t w raw (.agg cs) = if cs.size = n then .ok (.value (.slice (some ⟨w.heap.size, 0, none⟩) 1 1)) (w.alloc (.cells cs t)) else raw := rfl
theorem A9a:(Tryz.prog.info? 23).map (fun i=>(i.zero,i.size,i.bytes))=some (some (A8 (z8 32)),32,32):=by kernel_rfl
theorem C5p {e t n b:Nat} {z:Value} (ht:Tryz.prog.underlying t=some (.slice e)) (hi:(Tryz.prog.info? e).map (fun i=>(i.zero,i.size,i.bytes))=some (some z,n,b)) (hz:z.cells.size=n) (hn:n≤16777216) (hp:n≠0)
 (w:World) (ρ:Operand→Value) (dst:Option Tmp) (ty:TypeId) (pos:String) (after:Array Edge) (guard:Option (Nat×Bool)) (x:Operand) :
 (execOp ρ { dst,op:=.buildSlice t 1 #[(0,x)],type:=ty,pos,after,guard }).run Tryz.prog w=Le n e w (N8 Tryz.prog ρ { dst,op:=.buildSlice t 1 #[(0,x)],type:=ty,pos,after,guard } w) (ρ x):=Ug w ρ dst ty pos after guard t e n b z x ht hi hz hn hp
@[go_sem ↓ high] theorem D7j (w : World) (ρ : Operand → Value) (dst : Option Tmp) (ty : TypeId) (pos : String) (after : Array Edge) (guard : Option (Nat × Bool)) (x : Operand) :
 (execOp ρ { dst,op:=.buildSlice 42 1 #[(0,x)],type:=ty,pos,after,guard }).run Tryz.prog w=Le 32 23 w (N8 Tryz.prog ρ { dst,op:=.buildSlice 42 1 #[(0,x)],type:=ty,pos,after,guard } w) (ρ x):=
 C5p Tryz.underlying42 A9a (by simp[A8,Value.cells]) (by decide) (by decide) w ρ dst ty pos after guard x
end
theorem C4i (W:World) (c:Int) (b:UInt8) (hc:c=n8 b):By (W.alloc (.cells #[.int .u8 c] 5)) 0 (W.alloc (.cells #[.int .u8 c] 5)).heap.size (.slice (some ⟨W.heap.size,0,none⟩) 1 1) [b]:=by
 have:=By.build W 5 (0,0) [b] (by simp);subst hc;simpa [v8] using this
theorem C3j {a b c:List UInt8} {x y z:Nat} (h1:a.length=x) (h2:b.length=y) (h3:c.length=z) (hs:x+y+z≤1099511627776):[a,b,c].flatten.length≤1099511627776:=by simp[h1,h2,h3];omega
def Px (ls:List (List UInt8)):List UInt8:=Kh ls.flatten
@[simp, go_sem] theorem Et (ls : List (List UInt8)) : (Px ls).length = 32 := Fc _
theorem B0m (v:Value) (ls:List (List UInt8)) (w:World) (hp:M9 w w.heap.size v ls) (hsz:ls.flatten.length≤1099511627776) :
 Calls Tryz.prog 53 #[v] w fun e w'=>e=.returned (A8 (Px ls))∧Below w.heap.size w w':=Jv v ls w hp hsz
def Ci (ks:List (List UInt8)):Nat→List UInt8
 | 0=>z8 32
 | i+1=>Px [[3],Ci ks i,gl ks i]
@[simp, go_sem] theorem Fb (ks : List (List UInt8)) : ∀ i, (Ci ks i).length = 32
 | 0=>by simp[Ci]
 | i+1=>Et _
def Dq (ks:List (List UInt8)):List UInt8:=Px [[2],Y4 (UInt64.ofNat ks.length),Ci ks ks.length]
theorem Gj (ks:List (List UInt8)):(Dq ks).length=32:=Et _
theorem Qn (v:Value) (ks:List (List UInt8)) (w:World) (hv:Hs w 0 w.heap.size v ks) (hkn:ks.length≤1000000):Calls Tryz.prog 31 #[v] w fun e w'=>e=.returned (A8 (Dq ks))∧Below w.heap.size w w':=by
 obtain⟨A,c,rfl,dM,dT⟩:=hv.form;have HV:=Lib.hid hv;have cW:=hv.1;obtain⟨n,hn⟩:=H8 (ks.length);have hw:IntKind.u64.wrap (n:Int)=J0 (UInt64.ofNat n):=by rw[Gh];unfold J0;simp
 have HN:=Lib.hid hn;rw[←hn]at dM hkn ⊢;have dN:=Lib.hid cW;clear hv cW hn;have HE:Hid (Dq ks=Px [[2],Y4 (UInt64.ofNat n),Ci ks n]):=Lib.hid (by rw[HN.out];rfl);obtain⟨W0,cH⟩:=H8 ((w.alloc (Obj.cells (c8 (z8 32)).toArray 23)));have hL:W0=M2 w [(23,(c8 (z8 32)))]:=cH;have B0:=Jc hL;have bH:=Jy hL rfl;have z0:=Vp 1 hL rfl;have cX:=SL' 1 hL rfl;clear hL;obtain⟨V1,bD⟩:=H8 (W0.alloc (Obj.cells (c8 (z8 32)).toArray 23));have cY:W0.heap.size=w.heap.size+1:=cX;have aL:Bk V1 (w.heap.size+1) 23 (c8 (z8 32)):=by rw[bD,←cY];exact Bk.new W0 _ _
 have aM:=Y3 bD bH;have cZ:=Jx bD B0;clear cY;go_enter Tryz.func31,Tryz.ntmps31;go_wp2_with fail;rw[←cH,←bD];have dB:=ZA' bD z0;clear cH bD cX bH B0 z0;go_loopw [8] (fun x8 wr=>∃m:Nat,0≤m∧m≤n∧x8=.int .i64 (m:Int)∧Bk wr (w.heap.size) 23 (c8 (z8 32))∧Bk wr (w.heap.size+1) 23 (c8 (Ci ks m))∧Below w.heap.size w wr∧w.heap.size+1≤wr.heap.size) (fun x8 _=>n-(intOf x8).toNat)
 case atStart=>exact ⟨0,by omega,by omega,rfl,aM,aL,cZ,dB⟩
 case round=>
  clear cZ dB aM aL;obtain⟨m,bE,hm,rfl,aA,aB,cE,cF⟩:=hrel;by_cases hltm:m<n
  ·
   have hd:decide ((m:Int)<(n:Int))=true:=decide_eq_true (by omega);have dU:=decide_eq_true hltm;obtain⟨kk,aT⟩:=H8 (gl ks m);have bE:m<ks.length:=by rw[←HN.out];exact hltm
   have cI:ks[m]?=some kk:=by rw[aT];unfold gl;rw[List.getElem?_eq_getElem bE];simp[bE]
   have cG:=dN.out kk (List.mem_of_getElem? cI);have HD:Hid (Ci ks (m+1)=Px [[3],Ci ks m,kk]):=Lib.hid (by rw[aT];rfl);obtain⟨g,o,hA,hg,bI⟩:∃g o,A=some ⟨g,o,none⟩∧g<w.heap.size∧I6 w ⟨g,o+m*32,none⟩ 32=some (c8 kk):=by
    obtain⟨g,o,c',hh⟩:=HV.out.row;rcases hh with ⟨hr,_,hg,hA,_,_⟩ | h0
    ·injection hA with hA;exact ⟨g,o,hA,hg,hr m kk cI⟩
    ·rw[h0]at bE;simp at bE
   subst hA;have dO:=(Es (a:=⟨g,o+m*32,none⟩) cE hg).trans bI;clear aT bE cI bI;obtain⟨V2,aN⟩:=H8 (wr.alloc (Obj.cells (c8 (z8 32)).toArray 23));have bJ:wr.heap.size=wr.heap.size:=rfl;have aC:Bk V2 (wr.heap.size) 23 (c8 (z8 32)):=by rw[aN,←bJ];exact Bk.new wr _ _
   have aO:=Y3 aN aA;have aP:=Y3 aN aB;have dC:=Jx aN cE;have aD:=Y9 bJ aA;have aE:=Y9 bJ aB;have bK:w.heap.size+1≤wr.heap.size:=by rw[←bJ];exact Nat.le_trans cF (Nat.le_refl _)
   clear bJ;obtain⟨V3,aU⟩:=H8 (E0 V2 ⟨wr.heap.size,0,none⟩ (c8 kk));have aF:=P8' 32 aU aC (by simp) cG;have aQ:=I4 aU aO (by omega);have aG:=I4 aU aP (by omega);have dD:=Z9 aU dC (by omega);have cJ:=dO;have aR:=C8' 32 aC (by simp);rw[aN]at aR;have cK:kk.length=32:=cG;go_wp2_with fail;rw[←aN,←aU];clear cJ aR cK;obtain⟨p4,cL⟩:=H8 (wr.heap.size);rw[←cL]at aF aD aE bK;try rw[←cL]
   have dE:w.heap.size+1≤V3.heap.size:=by have hz:=cF;rw[aU,aN];first | (simp;omega) | (simp[World.setCell];omega)
   clear aN aU cL cF aO aP aC dC;have S5:=Eo V3;refine Dm (fun W=>True) ?_;refine Cf (A:=?dV) [1,2] trivial (fun W hW=>?dP) ?dW;case dP=>
    exact Dd
   refine J2 [zb 0 12 [3],zs 3 15 3 [[3],(Ci ks m),kk],zv 4 16 (A8 (Px [[3],(Ci ks m),kk]))] (by kernel_rfl) (fun W hW=>trivial) ?bL ?bM ?bN;case bL=>exact Jz
   case bM=>
    refine (N7 ⟨?cM,(N7 ⟨?cN,(N7 ⟨?cO,Ik⟩)⟩)⟩);case cM=>
     intro o ho us W hW hp Q' hQ';obtain rfl:=Option.some.inj ho;clear hp ho;rw[C8]at hQ' ⊢;dsimp only[F8,I2,List.foldl,zv,za,zs,zp,zb]at hQ' ⊢;simp only[Bu];go_wp2_with fail;exact Cm (hQ' _ _ (Bi _ _) (C4i W 3 _ rfl) nofun)
    case cN=>intro o ho us W hW hp Q' hQ';obtain rfl:=Option.some.inj ho;have aH:By W 0 W.heap.size (us 0) [3]:=hp 0 _ rfl (by kernel_rfl);obtain⟨A0,n0,c0,aV⟩:=aH.formE;rw[aV]at aH;have aH:=Lib.hid aH;clear hp ho;rw[C8]at hQ' ⊢;dsimp only[F8,I2,List.foldl,zv,za,zs,zp,zb]at hQ' ⊢;simp only[Bu];rw[aV]at hQ' ⊢;clear aV;have aI:=aG.drew.bl hW;have bO:=aF.drew.bl hW;go_wp2_with fail;exact Cm (hQ' _ _ (Bi _ _) ⟨_,rfl,(M9.three W _ _ _ _ [3] (Ci ks m) kk aH.out (Bk.byAll (aI) (Fb ks m) (by decide)) (Bk.byAll (bO) cG (by decide))).more (by simp)⟩ nofun)
    case cO=>
     intro o ho us W hW hp Q' hQ';obtain rfl:=Option.some.inj ho;obtain⟨dF,bP,bQ⟩:=hp 1 _ rfl (by kernel_rfl);have bP:us 3=.slice (some ⟨dF,0,none⟩) 3 3:=bP;have bQ:M9 W W.heap.size (.slice (some ⟨dF,0,none⟩) 3 3) [[3],(Ci ks m),kk]:=by rw[←bP];exact bQ
     have bQ:=Lib.hid bQ;clear hp ho;rw[C8]at hQ' ⊢;dsimp only[F8,I2,List.foldl,zv,za,zs,zp,zb]at hQ' ⊢;simp only[Bu];rw[bP]at hQ' ⊢;clear bP;go_wp2_with fail;refine (B0m _ [[3],(Ci ks m),kk] W bQ.out (C3j rfl (Fb ks m) cG (by decide))).mono ?_;rintro e W2 ⟨rfl,b2⟩;go_wp2_with fail;exact Cm (hQ' _ _ b2 rfl nofun)
   case bN=>
   intro us W6 b7 hg aW cP;have bR:By W6 0 W6.heap.size (us 0) [3]:=hg _ (M6 0 rfl);have bR:=Lib.hid bR;have bF:us 4=(A8 (Px [[3],(Ci ks m),kk])):=hg _ (M6 2 rfl);have b8:=J5 S5 b7;refine RG' ?_;rw[bF];clear hg aW cP bF b7 S5;have B6:=J5 dD b8;have z6:=Nat.le_trans dE b8.size;have bS:=aQ.bl b8;have aX:=aG.bl b8;clear b8 dD dE aQ aG aF;obtain⟨W9,bG⟩:=H8 (E0 W6 ⟨w.heap.size+1,0,none⟩ (c8 (Px [[3],(Ci ks m),kk])));have cQ:Bk W9 (w.heap.size+1) 23 (c8 (Px [[3],(Ci ks m),kk])):=by rw[bG];exact Bk.put8 (aX) ((Fb ks m)) ((Et [[3],(Ci ks m),kk]))
   have cR:=I4 bG bS (by omega);have B9:=Z9 bG B6 (by omega);have bT:=C8' 32 aX (Fb ks m);have bU:(Px [[3],(Ci ks m),kk]).length=32:=(Et [[3],(Ci ks m),kk]);refine U0 5 fun Q' hQ'=>?_;dsimp only[F8];go_wp2_with fail;rw[←bG];refine hQ' _ _ trivial ?_;clear hQ' bT bU;have z9:=Gd bG z6;clear bG B6 z6 bS aX;refine Cu ?_;go_wp2_with fail;go_roundw;case rel=>exact ⟨m+1,by omega,by omega,by go_num,cR,(by rw[HD.out];exact cQ),B9,z9⟩
   case measure=>simp[intOf];omega
  ·
   obtain rfl:n=m:=by omega
   go_wp2_with fail;have dG:=Eo wr;refine Dm (fun W=>True) ?_;refine Cf (A:=?dQ) [1,2,3,5] trivial (fun W hW=>?cS) ?dR;case cS=>
    exact Dd
   refine J2 [zb 0 18 [2],zb 4 22 (Y4 (UInt64.ofNat n)),zs 6 24 3 [[2],(Y4 (UInt64.ofNat n)),(Ci ks n)],zv 7 25 (A8 (Px [[2],(Y4 (UInt64.ofNat n)),(Ci ks n)]))] (by kernel_rfl) (fun W hW=>trivial) ?aY ?aZ ?bA;case aY=>exact Jz
   case aZ=>
    refine (N7 ⟨?bV,(N7 ⟨?bX,(N7 ⟨?bY,(N7 ⟨?bZ,Ik⟩)⟩)⟩)⟩);case bV=>
     intro o ho us W hW hp Q' hQ';obtain rfl:=Option.some.inj ho;clear hp ho;rw[C8]at hQ' ⊢;dsimp only[F8,I2,List.foldl,zv,za,zs,zp,zb]at hQ' ⊢;simp only[Bu];go_wp2_with fail;exact Cm (hQ' _ _ (Bi _ _) (C4i W 2 _ rfl) nofun)
    case bX=>intro o ho us W hW hp Q' hQ';obtain rfl:=Option.some.inj ho;clear hp ho;rw[C8]at hQ' ⊢;dsimp only[F8,I2,List.foldl,zv,za,zs,zp,zb]at hQ' ⊢;simp only[Bu];go_wp2_with fail;refine (Nf (.slice none 0 0) [] (UInt64.ofNat n) W (.inl ⟨rfl,rfl⟩) (by simp)).mono ?_;rintro e W2 ⟨v2,rfl,cT,b2⟩;have cT:=Lib.hid cT;go_wp2_with fail;exact Cm (hQ' _ _ b2 cT.out.up nofun)
    case bY=>intro o ho us W hW hp Q' hQ';obtain rfl:=Option.some.inj ho;have aH:By W 0 W.heap.size (us 0) [2]:=hp 0 _ rfl (by kernel_rfl);obtain⟨A0,n0,c0,aV⟩:=aH.formE;rw[aV]at aH;have aH:=Lib.hid aH;have aS:By W 0 W.heap.size (us 4) (Y4 (UInt64.ofNat n)):=hp 1 _ rfl (by kernel_rfl);obtain⟨A4,n4,c4,bF⟩:=aS.formE;rw[bF]at aS;have aS:=Lib.hid aS;clear hp ho;rw[C8]at hQ' ⊢;dsimp only[F8,I2,List.foldl,zv,za,zs,zp,zb]at hQ' ⊢;simp only[Bu];rw[aV,bF]at hQ' ⊢;clear aV bF;have aI:=aB.drew.bl hW;go_wp2_with fail;exact Cm (hQ' _ _ (Bi _ _) ⟨_,rfl,(M9.three W _ _ _ _ [2] (Y4 (UInt64.ofNat n)) (Ci ks n) aH.out aS.out (Bk.byAll (aI) (Fb ks n) (by decide))).more (by simp)⟩ nofun)
    case bZ=>
     intro o ho us W hW hp Q' hQ';obtain rfl:=Option.some.inj ho;have aS:By W 0 W.heap.size (us 4) (Y4 (UInt64.ofNat n)):=hp 1 _ rfl (by kernel_rfl);have aS:=Lib.hid aS;obtain⟨dH,cA,cB⟩:=hp 2 _ rfl (by kernel_rfl);have cA:us 6=.slice (some ⟨dH,0,none⟩) 3 3:=cA;have cB:M9 W W.heap.size (.slice (some ⟨dH,0,none⟩) 3 3) [[2],(Y4 (UInt64.ofNat n)),(Ci ks n)]:=by rw[←cA];exact cB
     have cB:=Lib.hid cB;clear hp ho;rw[C8]at hQ' ⊢;dsimp only[F8,I2,List.foldl,zv,za,zs,zp,zb]at hQ' ⊢;simp only[Bu];rw[cA]at hQ' ⊢;clear cA;go_wp2_with fail;refine (B0m _ [[2],(Y4 (UInt64.ofNat n)),(Ci ks n)] W cB.out (C3j rfl (A5y (UInt64.ofNat n)) (Fb ks n) (by decide))).mono ?_;rintro e W2 ⟨rfl,b2⟩;go_wp2_with fail;exact Cm (hQ' _ _ b2 rfl nofun)
   case bA=>
   intro us cC dI hg aW cP;have bR:By cC 0 cC.heap.size (us 0) [2]:=hg _ (M6 0 rfl);have bR:=Lib.hid bR;have dJ:By cC 0 cC.heap.size (us 4) (Y4 (UInt64.ofNat n)):=hg _ (M6 1 rfl);have dJ:=Lib.hid dJ;have dK:us 7=(A8 (Px [[2],(Y4 (UInt64.ofNat n)),(Ci ks n)])):=hg _ (M6 3 rfl);have cU:=J5 dG dI;refine RG' ?_;rw[dK];clear hg aW cP dK dI dG;have dL:=J5 cE cU;have aJ:=aA.bl cU;clear cU cE cF aA aB;obtain⟨dX,aK⟩:=H8 (E0 cC ⟨w.heap.size,0,none⟩ (c8 (Px [[2],(Y4 (UInt64.ofNat n)),(Ci ks n)])));have cD:=P8' 32 aK aJ (by simp) (Et [[2],(Y4 (UInt64.ofNat n)),(Ci ks n)]);have dS:=Z9 aK dL (by omega);have bB:=C8' 32 aJ (by simp);have bC:(Px [[2],(Y4 (UInt64.ofNat n)),(Ci ks n)]).length=32:=(Et [[2],(Y4 (UInt64.ofNat n)),(Ci ks n)]);refine U0 8 fun Q' hQ'=>?_;dsimp only[F8];go_wp2_with fail;rw[←aK];refine hQ' _ _ trivial ?_;clear hQ' bB bC;clear aK dL aJ;refine Cu ?_;go_wp2_with fail;have cV:(Px [[2],(Y4 (UInt64.ofNat n)),(Ci ks n)]).length=32:=(Et [[2],(Y4 (UInt64.ofNat n)),(Ci ks n)]);refine bodyPost_ret (E5 rfl _ _ _ _ _ _ rfl cD Tryz.underlying23 rfl (by simp[O7,cV])) rfl ⟨by rw[HE.out];rfl,dS⟩
theorem Hs.at_ {w:World} {B:Nat} {A:Option Addr} {n c:Nat} {ks:List (List UInt8)} (h:Hs w 0 B (.slice A n c) ks) {m:Nat} {k:List UInt8} (hk:ks[m]?=some k):∃g o,A=some ⟨g,o,none⟩∧g<B∧I6 w ⟨g,o+m*32,none⟩ 32=some (c8 k):=by
 obtain⟨g,o,c',hh⟩:=h.row;rcases hh with ⟨hr,_,hg,hA,_,_⟩ | h0
 ·injection hA with hA;exact ⟨g,o,hA,hg,hr m k hk⟩
 ·rw[h0]at hk;simp at hk
end Go.Proofs.YtlegpkdighoflaaGreat
