/- A part of the proof of DirBuilds. -/
import Derived.Outline
import Derived.Maps.AppendAt
import Derived.Test.YtlegpkdighoflaaGreatSaz
set_option linter.unusedVariables false
set_option linter.unusedSimpArgs false
set_option maxRecDepth 100000
set_option maxHeartbeats 40000000
namespace Go.Proofs.YtlegpkdighoflaaGreat
open Go Go.RowKit Sh
section
def pb (p:Pr):List UInt8:=p.1++p.2
def Jh (p:Pr):Prop:=p.1.length=32∧p.2.length=32
theorem Jh.len {p:Pr} (h:Jh p):(pb p).length=64:=by unfold pb;rw[List.length_append,h.1,h.2]
section
variable {w w' : World} {lo lo' B B' : Nat} {v : Value} {l : List Pr}
end
theorem E6u:(Tryz.prog.info? 96).map (fun i=>(i.zero,i.size,i.bytes))=some (some (A8 (z8 64)),64,64):=by kernel_rfl
theorem D4c:(Tryz.prog.info? 96).map (·.size)=some 64:=by kernel_rfl
theorem D5h:((Tryz.prog.info? 96).bind (·.zero))=some (A8 (z8 64)):=by kernel_rfl
theorem B7f:Tryz.prog.underlying 96=some (.struct (Q0 Tryz.prog 96)):=by kernel_rfl
theorem D1k (w:World):(Ee (Q0 Tryz.prog 96)).run Tryz.prog w=.ok #[(0,32),(32,32)] w:=by kernel_rfl
def Lj (n:Nat) (t:TypeId) (w:World) (raw:Result Next):Value→Result Next
 | .agg cs=>if cs.size=n then .ok (.value (.slice (some ⟨w.heap.size,0,none⟩) 1 1)) (w.alloc (.cells cs t)) else raw
 | _=>raw
@[go_sem] theorem E1m (n : Nat) (t : TypeId) (w : World) (raw : Result Next) (l : List UInt8) : Lj n t w raw (A8 l) = if l.length = n then .ok (.value (.slice (some ⟨w.heap.size, 0, none⟩) 1 1)) (w.alloc (.cells (c8 l).toArray t)) else raw := by
 have e:Lj n t w raw (A8 l)=if (c8 l).toArray.size=n then .ok (.value (.slice (some ⟨w.heap.size,0,none⟩) 1 1)) (w.alloc (.cells (c8 l).toArray t)) else raw:=rfl;rw[e];simp only[List.size_toArray,H6]
theorem C4a {P:Program} (w:World) (ρ:Operand→Value) (dst:Option Tmp) (ty:TypeId) (pos:String) (after:Array Edge) (guard:Option (Nat×Bool)) (t e n:Nat) (z:Value) (x:Operand)
 (ht:P.underlying t=some (.slice e)) (hi:(P.info? e).map (fun i=>(i.zero,i.size,i.bytes))=some (some z,n,n)) (hz:z.cells.size=n) (hn:n≤16777216) (hp:n≠0) :
 (execOp ρ { dst,op:=.buildSlice t 1 #[(0,x)],type:=ty,pos,after,guard }).run P w=Lj n e w (M6 P ρ { dst,op:=.buildSlice t 1 #[(0,x)],type:=ty,pos,after,guard } w) (ρ x):=by
 generalize hv:ρ x=v;unfold Lj;split
 ·rename_i cs
  split
  ·rename_i hcs
   cases hq:P.info? e with
   | none=>simp[hq]at hi
   | some i=>
    simp only[hq,Option.map_some,Option.some.injEq,Prod.mk.injEq]at hi;obtain⟨h1,h2,_⟩:=hi;have hf:Instr.fill (fun i=>some (i*n,n)) ((Array.range (1*n)).map (fun j=>z.cells[j % z.cells.size]!)) [(0,Value.agg cs)]=some cs:=by
     have aA:((Array.range (1*n)).map (fun j=>z.cells[j % z.cells.size]!)).size=n:=by simp
     generalize (Array.range (1*n)).map (fun j=>z.cells[j % z.cells.size]!)=m at *;have h3:=Rk (fun i=>some (i*n,n)) [(0,Value.agg cs)] [(0,cs.toList)] m.toList ⟨by simp[hcs],rfl,by simp[hcs,aA],trivial⟩;rw[Array.toArray_toList]at h3;rw[h3];simp[Fg,Z0,hcs,aA,List.drop_eq_nil_of_le]
    have aB:¬ (16777216<n):=by omega
    have hr:(Instr.buildSlice t 1 #[(0,Value.agg cs)]).run P w=.ok (.slice (some ⟨w.heap.size,0,none⟩) 1 1) (w.alloc (.cells cs e)):=by unfold Instr.buildSlice;simp only[Sem.run_bind,run_underlying ht,Result.andThen_ok,sizeOf,typeInfo,Sem.run_pure];simp only[Nat.one_mul]at hf;simp[hq,h2,aB,hp,zeroValue,typeInfo,h1,newRow];rw[hf];rfl
    simp only[execOp,List.map_toArray,List.map_cons,List.map_nil,hv,Sem.run_bind,hr,Result.andThen_ok,Sem.run_pure]
  ·rfl
 ·rfl
section
variable (w : World) (ρ : Operand → Value) (dst : Option Tmp) (ty : TypeId) (pos : String) (after : Array Edge) (guard : Option (Nat × Bool))
@[go_sem ↓ high] theorem E0b:RL' 96 64:=LL' B7f D4c
@[go_sem ↓ high] theorem D8m:RS' 96 64:=SS' D4c
@[go_sem ↓ high] theorem D8e:RA' 96 (c8 (z8 64)).toArray:=fun w ρ dst ty pos after guard=>N8 w ρ dst ty pos after guard 96 (A8 (z8 64)) D5h
@[go_sem ↓ high] theorem E1g:RB' 96:=BX' _
@[go_sem ↓ high] theorem E3m (x : Operand) :
 (execOp ρ { dst,op:=.buildSlice 52 1 #[(0,x)],type:=ty,pos,after,guard }).run Tryz.prog w=Lj 64 96 w (M6 Tryz.prog ρ { dst,op:=.buildSlice 52 1 #[(0,x)],type:=ty,pos,after,guard } w) (ρ x):=
 C4a w ρ dst ty pos after guard 52 96 64 (A8 (z8 64)) x Tryz.underlying52 E6u (by simp[A8,Value.cells]) (by decide) (by decide)
end
noncomputable def Wo (w:World) (raw:Result Next) (k v:Value):Result Next:=
 match Cf k,Cf v with
 | some k,some v=>if k.length=32∧v.length=32 then .ok (.value (A8 (pb (k,v)))) w else raw
 | _,_=>raw
@[go_sem] theorem E0e (w : World) (raw : Result Next) (k v : List UInt8) (hk : k.length = 32) (hv : v.length = 32) : Wo w raw (A8 k) (A8 v) = .ok (.value (A8 (pb (k, v)))) w := by
 unfold Wo;rw[Cw,Cw];simp[hk,hv]
theorem C4m (k v:List UInt8) (hk:k.length=32) (hv:v.length=32) (w:World):(Instr.build 96 #[(0,A8 k),(1,A8 v)]).run Tryz.prog w=.ok (A8 (pb (k,v))) w:=by
 have hz:(A8 (z8 64)).cells.toList=c8 (z8 64):=rfl;have hl:(c8 (z8 64)).length=64:=by simp
 have h1:=Q9 B7f D5h w (D1k w) #[(0,A8 k),(1,A8 v)] [(0,c8 k),(32,c8 v)] (by
  rw[hz,hl];exact ⟨by simp[hk],rfl,by simp[hk],by simp[hv],rfl,by simp[hv],trivial⟩)
 refine h1.trans (congrArg (fun (cs:List Value)=>Result.ok (Value.agg cs.toArray) w) ?_);rw[hz];simp[Fg,Z0,hk,hv,List.take_append,List.drop_append,List.drop_eq_nil_of_le,List.take_of_length_le,pb,c8]
@[go_sem ↓ high] theorem D6e (w : World) (ρ : Operand → Value) (dst : Option Tmp) (ty : TypeId) (pos : String) (after : Array Edge) (guard : Option (Nat × Bool)) (x y : Operand) :
 (execOp ρ { dst,op:=.build 96 #[(0,x),(1,y)],type:=ty,pos,after,guard }).run Tryz.prog w=Wo w (M6 Tryz.prog ρ { dst,op:=.build 96 #[(0,x),(1,y)],type:=ty,pos,after,guard } w) (ρ x) (ρ y):=by
 generalize hx:ρ x=a;generalize hy:ρ y=b;unfold Wo;split
 ·rename_i k v h1 h2
  replace h1:=T5 h1;replace h2:=T5 h2;split
  ·rename_i h
   refine N7 w ρ dst ty pos after guard _ _ _ ?_;simp only[List.map_toArray,List.map_cons,List.map_nil,hx,hy,h1,h2];exact C4m k v h.1 h.2 w
  ·rfl
 ·rfl
section
variable {w : World} {g : Nat} {t : TypeId} {p : Pr}
theorem Pg (h:Bk w g t (c8 (pb p))) (hp:Jh p):E5 w ⟨g,0,none⟩ 32=some (c8 p.1):=by
 have:=h.rowMid 0 32 (by rw[H6,hp.len];omega);rw[this];simp[pb,c8,hp.1]
theorem Uo (h:Bk w g t (c8 (pb p))) (hp:Jh p):E5 w ⟨g,32,none⟩ 32=some (c8 p.2):=by
 have:=h.rowMid 32 32 (by rw[H6,hp.len];omega);rw[this];simp[pb,c8,hp.1,hp.2,List.take_of_length_le]
theorem Bk.fresh (w:World) (t:TypeId) {l m:List UInt8} (h:l.length=m.length):Bk (C9 (w.alloc (.cells (c8 l).toArray t)) ⟨w.heap.size,0,none⟩ (c8 m)) w.heap.size t (c8 m):=(Bk.new w t (c8 l)).puts (by simp[h])
@[go_sem] theorem D8w (w : World) (t : TypeId) (p : Pr) (hp : Jh p) : E5 (w.alloc (.cells (c8 (pb p)).toArray t)) ⟨w.heap.size, 0, none⟩ 32 = some (c8 p.1) := Pg (Bk.new w t _) hp
@[go_sem] theorem D9x (w : World) (t : TypeId) (p : Pr) (hp : Jh p) : E5 (w.alloc (.cells (c8 (pb p)).toArray t)) ⟨w.heap.size, 32, none⟩ 32 = some (c8 p.2) := Uo (Bk.new w t _) hp
end
section
variable {w : World} {base : Nat} {v : Value} {l : List Pr} {ops : Array Oper} {rest : List Oper} {o : Oper} {a : Act} {Q : Exit → Act → World → Prop}
end
end
section
open Classical in
noncomputable def Ca (a b:List UInt8):Bool:=decide (klt a b)
theorem M8 {a b:List UInt8}:Ca a b=true↔klt a b:=by unfold Ca;simp
noncomputable def E5b (k:List UInt8) (m:List Pr):Bool:=m.any fun q=>!Ca q.1 k
noncomputable def E4h (k x:List UInt8) (m:List Pr):List Pr:=(m.filter fun q=>Ca q.1 k)++(if E5b k m then [(k,x)] else [])++(m.filter fun q=>Ca k q.1)
noncomputable def A3e (k x:List UInt8) (m:List Pr):List Pr:=(m.filter fun q=>Ca q.1 k)++[(k,x)]++(m.filter fun q=>Ca k q.1)
def D3d (l:List Pr):Prop:=(∀p∈l,p.1.length=32∧p.2.length=32)∧l.Pairwise fun x y=>klt x.1 y.1
section
variable {k x : List UInt8} {m : List Pr} {q : Pr}
theorem E8d (hk:k.length=32) (hx:x.length=32) (h:∀p∈m,p.1.length=32∧p.2.length=32):∀p∈E4h k x m,p.1.length=32∧p.2.length=32:=by
 intro p hp;unfold E4h at hp;simp only[List.mem_append,List.mem_filter]at hp;rcases hp with (hp | hp) | hp
 ·exact h p hp.1
 ·split at hp
  ·simp at hp;subst hp;exact ⟨hk,hx⟩
  ·simp at hp
 ·exact h p hp.1
theorem C1z (hk:k.length=32) (hx:x.length=32) (h:D3d m):D3d (A3e k x m):=by
 constructor
 ·intro p hp;simp only[A3e,List.mem_append,List.mem_filter,List.mem_singleton]at hp;rcases hp with (hp | rfl) | hp
  ·exact h.1 p hp.1
  ·exact ⟨hk,hx⟩
  ·exact h.1 p hp.1
 ·unfold A3e;rw[List.pairwise_append,List.pairwise_append];refine ⟨⟨h.2.filter _,List.pairwise_singleton _ _,fun a ha b hb=>?_⟩,h.2.filter _,fun a ha b hb=>?_⟩
  ·simp at hb;subst hb;exact M8.1 (List.mem_filter.1 ha).2
  ·have aA:=M8.1 (List.mem_filter.1 hb).2;rcases List.mem_append.1 ha with ha | ha
   ·exact (M8.1 (List.mem_filter.1 ha).2).trans aA
   ·simp at ha;subst ha;exact aA
theorem C3x (hk:k.length=32) (h:D3d m) (p:Pr):p∈A3e k x m↔p=(k,x)∨(p∈m∧p.1≠k):=by
 simp only[A3e,List.mem_append,List.mem_filter,List.mem_singleton];constructor
 ·rintro ((⟨h1,h2⟩ | rfl) | ⟨h1,h2⟩)
  ·exact .inr ⟨h1,(M8.1 h2).ne⟩
  ·exact .inl rfl
  ·exact .inr ⟨h1,fun e=>(M8.1 h2).ne e.symm⟩
 ·rintro (rfl | ⟨h1,h2⟩)
  ·exact .inl (.inr rfl)
  ·rcases klt.total (h.1 p h1).1 hk h2 with h3 | h3
   ·exact .inl (.inl ⟨h1,M8.2 h3⟩)
   ·exact .inr ⟨h1,M8.2 h3⟩
end
theorem Ok.rise {t:Tr} {d:Nat} {P:Nat→Bool} (ok:Ok d P t):D3d t.pairs:=⟨fun p hp=>⟨(Ok.keys ok p hp).1,(Ok.keys ok p hp).2.1⟩,ok.sorted⟩
theorem A5f {k x:List UInt8} {t:Tr} {P:Nat→Bool} (hk:k.length=32) (hx:x.length=32) (ok:Ok 0 P t):A3e k x t.pairs=(Hl k x 256 0 t).pairs:=by
 have hi:=Py k x hk hx 256 0 t P (by omega) (fun i hi=>by omega) ok;refine Sr (C1z hk hx ok.rise).2 hi.sorted fun p=>?_;rw[C3x hk ok.rise,Fk k x hk 256 0 t P (by omega) (fun i hi=>by omega) ok]
end
theorem Lz {α:Type} {l:List α} {i:Nat} {q:α} (h:l[i]?=some q):l.take (i+1)=l.take i++[q]:=by rw[List.take_add_one,h];rfl
theorem By.of_row {w:World} {g o n:Nat} {l:List UInt8} (h:E5 w ⟨g,o,none⟩ n=some (c8 l)) (hg:g<w.heap.size) (hn:n≤9223372036854775807):By w 0 w.heap.size (.slice (some ⟨g,o,none⟩) n n) l:=by
 obtain⟨h1,h2⟩:=Eo.1 h;rw[H6]at h1;subst h1;exact By.mk_ (Nat.le_refl _) (by unfold maxLen;exact hn) (.inr ⟨g,o,rfl,Nat.zero_le _,hg,fun j u hj=>h2 j u hj⟩)
section
def P0:Nat→Bool:=fun _=>false
def Okt (t:Tr):Prop:=Ok 0 P0 t
def Su (t:Tr) (k v:List UInt8):Tr:=Hl k v 256 0 t
def F2v (l:List Pr) (t:Tr):Tr:=l.foldl (fun t p=>Su t p.1 p.2) t
section
variable {t : Tr} {k v : List UInt8}
theorem Okt.put (ok:Okt t) (hk:k.length=32) (hv:v.length=32):Okt (Su t k v):=Py k v hk hv 256 0 t P0 (by omega) (fun i hi=>by omega) ok
theorem E2w (ok:Okt t) (hk:k.length=32) (x:Pr):x∈(Su t k v).pairs↔x=(k,v)∨(x∈t.pairs∧x.1≠k):=Fk k v hk 256 0 t P0 (by omega) (fun i hi=>by omega) ok x
theorem C4n (ok:Okt t) (hk:k.length=32):(Su t k v).len≤t.len+1:=by
 unfold Su;rw[Bo k v hk 256 0 t P0 (by omega) (fun i hi=>by omega) ok];split<;>omega
theorem Okt.nil:Okt .e:=trivial
end
end
section
section
variable {w : World} {base : Nat} {v : Value} {e : TypeId} {sz n : Nat} {xs : List Value}
theorem Bm (h:w.ownsRow base e sz v n xs):∃A c,v=.slice A n c∧n≤c∧c≤9223372036854775807:=by
 rcases h.2 with ⟨rfl,rfl⟩ | ⟨g,cap,cur,rfl,_,_,h1,h2,_⟩
 ·exact ⟨none,0,rfl,Nat.le_refl _,by omega⟩
 ·exact ⟨_,cap,rfl,h1,by unfold maxLen at h2;exact h2⟩
theorem Cv {w':World} {B:Nat} (h:w.ownsRow base e sz v n xs) (hb:Below B w w') (hB:w.heap.size≤B):w'.ownsRow base e sz v n xs:=by
 refine World.ownsRow.kept (row:=none) h ⟨hb.os,hb.tape,hb.output,hb.size,fun k hk _=>hb.block k (by omega)⟩ ?_;cases hv:v.ownBlock<;>simp
theorem Vj {base':Nat} (h:w.ownsRow base e sz v n xs) (hb:base'≤base):w.ownsRow base' e sz v n xs:=by
 refine ⟨h.1,?_⟩;rcases h.2 with h2 | ⟨g,cap,cur,hv,hg,r⟩
 ·exact .inl h2
 ·exact .inr ⟨g,cap,cur,hv,by omega,r⟩
theorem B3f {n' c:Nat} {A:Option Addr} (h:w.ownsRow base e sz (.slice A n' c) n xs):Rd w base w.heap.size A xs:=by
 rcases h.2 with ⟨hv,hn⟩ | ⟨g,cap,cur,hv,hbg,hh,_⟩
 ·subst hn;exact .inl (List.eq_nil_of_length_eq_zero (by rw[h.1,Nat.zero_mul]))
 ·have hA:A=Option.some ⟨g,0,none⟩:=by injection hv
  subst hA;refine .inr ⟨g,0,rfl,hbg,(Array.getElem?_eq_some_iff.1 hh).1,fun j u hu=>?_⟩;have:=h.cells (g:=g) rfl j u hu;rwa [U0]at this
variable {P : Program} {ops : Array Oper} {rest : List Oper} {o : Oper} {a : Act} {Q : Exit → Act → World → Prop}
theorem C9q (t:TypeId) (z:Value) (bytes:Nat) (ht:P.underlying t=some (.slice e)) (hinf:(P.info? e).map (fun i=>(i.zero,i.size,i.bytes))=some (some z,sz,bytes)) (hzs:z.cells.size=sz) (hpos:0<sz) (hby:bytes≤1024)
 (hgd:o.guard=none) (s x:Operand) (ho:o.op=.call { callee:=.builtin .append,args:=#[s,x],argTypes:=#[t,t] })
 (hs:a.eval s=v) (hown:w.ownsRow base e sz v n xs) (A:Option Addr) (m c:Nat) (hx:a.eval x=.slice A m c) (ys:List Value) (hl:ys.length=m*sz) (lo B:Nat) (hrd:Rd w lo B A ys) (hone:∀u∈ys,u.oneCell'=true) (hsz:n+m≤68719476736) (hb:base≤w.heap.size)
 (h:∀A' c' w',n+m≤c'→c'≤9223372036854775807→w'.ownsRow base e sz (.slice A' (n+m) c') (n+m) (xs++ys)→Below base w w'→w.grownBy w' v.ownBlock→((Value.slice A' (n+m) c').ownBlock=v.ownBlock∨(Value.slice A' (n+m) c').ownBlock=some w.heap.size)→wpList P ops Q rest (a.put o.dst (.slice A' (n+m) c')) w'):wpList P ops Q (o::rest) a w:=
 wpList_plain hgd fun _ hK=>by
  obtain⟨i0,aC,aD,aE,aF⟩:=info_parts hinf;have aB:(n+m)*bytes≤140737488355328:=by
   have:=Nat.mul_le_mul hsz hby;omega
  have aG:∃v' w',(Builtin.append_ #[t,t] o.type #[v,.slice A m c]).run P w=.ok v' w'∧w'.ownsRow base e sz v' (n+m) (xs++ys)∧w.grownBy w' v.ownBlock∧(v'.ownBlock=v.ownBlock∨v'.ownBlock=some w.heap.size):=by
   have aA:∀ad:Addr,(∀j u,ys[j]?=some u→w.cell? (ad.add j)=some u)→∃v' w',(Builtin.append_ #[t,t] o.type #[v,.slice (some ad) m c]).run P w=.ok v' w'∧w'.ownsRow base e sz v' (n+m) (xs++ys)∧w.grownBy w' v.ownBlock∧(v'.ownBlock=v.ownBlock∨v'.ownBlock=some w.heap.size):=by intro ad hc;obtain⟨v',w',h5,h6,h7,_,h8⟩:=run_append_own_at (P:=P) w base t o.type e i0 z sz bytes ht aC aD aE aF hzs hpos v n xs hown ad m c ys hl hc hone (by simp only[maxLen];omega) aB hb;exact ⟨v',w',h5,h6,h7,h8⟩
   rcases hrd with hy | ⟨g,of,rfl,_,_,hc⟩
   ·subst hy;have hm:m=0:=by
     have h0:m*sz=0:=by rw[←hl];rfl
     rcases Nat.mul_eq_zero.1 h0 with h | h
     ·exact h
     ·omega
    subst hm;cases A with
    | some ad=>exact aA ad (by simp)
    | none=>exact ⟨v,w,Nu w base _ o.type _ i0 sz ht aC v _ _ hown c,by simpa using hown,World.grownBy.refl w _,.inl rfl⟩
   ·exact aA ⟨g,of,none⟩ (fun j u hj=>by rw[U0];exact hc j u hj)
  obtain⟨v',w',hr,h2,h3,h4⟩:=aG;unfold Oper.wp execOp;simp only[ho,resolve,invoke,builtin,Sem.run_bind,Sem.run_pure,Result.andThen_ok,List.map_toArray,List.map_cons,List.map_nil,hs,hx,hr];obtain⟨A',c',rfl,aH,aI⟩:=Bm h2;exact hK _ _ (h A' c' w' aH aI h2 ((Below.refl _ _).grown h3 hb fun k hk=>(hown.lt k hk).1) h3 h4)
end
theorem Wm {P:Program} (w:World) (ρ:Operand→Value) (dst:Option Tmp) (ty:TypeId) (pos:String) (after:Array Edge) (guard:Option (Nat×Bool)) (t e n by_:Nat) (z:Value) (x:Operand)
 (ht:P.underlying t=some (.slice e)) (hi:(P.info? e).map (fun i=>(i.zero,i.size,i.bytes))=some (some z,n,by_)) (hz:z.cells.size=n) (hn:n≤16777216) (hp:n≠0) :
 (execOp ρ { dst,op:=.buildSlice t 1 #[(0,x)],type:=ty,pos,after,guard }).run P w=Lj n e w (M6 P ρ { dst,op:=.buildSlice t 1 #[(0,x)],type:=ty,pos,after,guard } w) (ρ x):=by
 generalize hv:ρ x=v;unfold Lj;split
 ·rename_i cs
  split
  ·rename_i hcs
   cases hq:P.info? e with
   | none=>simp[hq]at hi
   | some i=>
    simp only[hq,Option.map_some,Option.some.injEq,Prod.mk.injEq]at hi;obtain⟨h1,h2,_⟩:=hi;have hf:Instr.fill (fun i=>some (i*n,n)) ((Array.range (1*n)).map (fun j=>z.cells[j % z.cells.size]!)) [(0,Value.agg cs)]=some cs:=by
     have aA:((Array.range (1*n)).map (fun j=>z.cells[j % z.cells.size]!)).size=n:=by simp
     generalize (Array.range (1*n)).map (fun j=>z.cells[j % z.cells.size]!)=m at *;have h3:=Rk (fun i=>some (i*n,n)) [(0,Value.agg cs)] [(0,cs.toList)] m.toList ⟨by simp[hcs],rfl,by simp[hcs,aA],trivial⟩;rw[Array.toArray_toList]at h3;rw[h3];simp[Fg,Z0,hcs,aA,List.drop_eq_nil_of_le]
    have aB:¬ (16777216<n):=by omega
    have hr:(Instr.buildSlice t 1 #[(0,Value.agg cs)]).run P w=.ok (.slice (some ⟨w.heap.size,0,none⟩) 1 1) (w.alloc (.cells cs e)):=by unfold Instr.buildSlice;simp only[Sem.run_bind,run_underlying ht,Result.andThen_ok,sizeOf,typeInfo,Sem.run_pure];simp only[Nat.one_mul]at hf;simp[hq,h2,aB,hp,zeroValue,typeInfo,h1,newRow];rw[hf];rfl
    simp only[execOp,List.map_toArray,List.map_cons,List.map_nil,hv,Sem.run_bind,hr,Result.andThen_ok,Sem.run_pure]
  ·rfl
 ·rfl
def Hs (w:World) (lo B:Nat) (v:Value) (l:List (List UInt8)):Prop:=(∀k∈l,k.length=32)∧∃A c,v=.slice A l.length c∧l.length≤c∧c≤maxLen∧Rd w lo B A (c8 l.flatten)
section
variable {w w' : World} {lo lo' B B' : Nat} {v : Value} {l : List (List UInt8)}
theorem Hs.below (h:Hs w lo B v l) (hb:Below B w w'):Hs w' lo B v l:=let ⟨h0,A,c,h1,h2,h3,h4⟩:=h;⟨h0,A,c,h1,h2,h3,h4.below hb⟩
theorem Hs.more (h:Hs w lo B v l) (hB:B≤B'):Hs w lo B' v l:=let ⟨h0,A,c,h1,h2,h3,h4⟩:=h;⟨h0,A,c,h1,h2,h3,h4.more hB⟩
theorem Hs.form (h:Hs w lo B v l):∃A c,v=.slice A l.length c∧l.length≤c∧c≤9223372036854775807:=by
 obtain⟨_,A,c,h1,h2,h3,_⟩:=h;exact ⟨A,c,h1,h2,by unfold maxLen at h3;exact h3⟩
theorem Z1 {l:List (List UInt8)} (h:∀k∈l,k.length=32):l.flatten.length=l.length*32:=by
 induction l with
 | nil=>rfl
 | cons k l ih=>
  have h1:=ih fun q hq=>h q (by simp[hq]);have h2:=h k (by simp);simp only[List.flatten_cons,List.length_append,List.length_cons]at h1 ⊢;omega
theorem Zn {l:List (List UInt8)} (h:∀k∈l,k.length=32):∀ {i:Nat} {k:List UInt8},l[i]?=some k→(l.flatten.drop (i*32)).take 32=k:=by
 induction l with
 | nil=>intro i p hp;simp at hp
 | cons q l ih=>
  intro i p hp;have h2:=h q (by simp);cases i with
  | zero=>
   simp at hp;subst hp;simp only[List.flatten_cons,Nat.zero_mul,List.drop_zero];rw[←h2,List.take_left]
  | succ i=>
   have:=ih (fun q hq=>h q (by simp[hq])) (i:=i) (k:=p) (by simpa using hp);simp only[List.flatten_cons];rw[show (i+1)*32=q.length+i*32 by omega,←List.drop_drop,List.drop_left];exact this
theorem Hs.row (h:Hs w lo B v l):∃g o c,(∀i k,l[i]?=some k→E5 w ⟨g,o+i*32,none⟩ 32=some (c8 k))∧lo≤g∧g<B∧v=.slice (some ⟨g,o,none⟩) l.length c∧l.length≤c∧c≤9223372036854775807∨l=[]:=by
 obtain⟨h0,A,c,h1,h2,h3,h4⟩:=h;rcases Nat.eq_zero_or_pos l.length with h5 | h5
 ·exact ⟨0,0,0,.inr (List.eq_nil_of_length_eq_zero h5)⟩
 ·obtain⟨g,o,rfl,hl,hb,hc⟩:=h4.some (by rw[H6,Z1 h0];omega);refine ⟨g,o,c,.inl ⟨fun i k hk=>?_,hl,hb,h1,h2,by unfold maxLen at h3;exact h3⟩⟩;have aB:=Zn h0 hk;have aA:=h0 k (List.mem_of_getElem? hk);refine Eo.2 ⟨by rw[H6,aA],fun j u hj=>?_⟩;have aC:j<32:=by have:=(List.getElem?_eq_some_iff.1 hj).1;rw[H6,aA]at this;exact this
  rw[Nat.add_assoc];refine hc _ _ ?_;rw[←hj,←aB];simp only[c8,List.getElem?_map,List.getElem?_take,List.getElem?_drop,if_pos aC]
end
@[go_sem] theorem B9c (n : Nat) (t : TypeId) (w : World) (raw : Result Next) (cs : Array Value) : Lj n t w raw (.agg cs) = if cs.size = n then .ok (.value (.slice (some ⟨w.heap.size, 0, none⟩) 1 1)) (w.alloc (.cells cs t)) else raw := rfl
theorem B7v:(Tryz.prog.info? 23).map (fun i=>(i.zero,i.size,i.bytes))=some (some (A8 (z8 32)),32,32):=by kernel_rfl
theorem D5u {e t n b:Nat} {z:Value} (ht:Tryz.prog.underlying t=some (.slice e)) (hi:(Tryz.prog.info? e).map (fun i=>(i.zero,i.size,i.bytes))=some (some z,n,b)) (hz:z.cells.size=n) (hn:n≤16777216) (hp:n≠0)
 (w:World) (ρ:Operand→Value) (dst:Option Tmp) (ty:TypeId) (pos:String) (after:Array Edge) (guard:Option (Nat×Bool)) (x:Operand) :
 (execOp ρ { dst,op:=.buildSlice t 1 #[(0,x)],type:=ty,pos,after,guard }).run Tryz.prog w=Lj n e w (M6 Tryz.prog ρ { dst,op:=.buildSlice t 1 #[(0,x)],type:=ty,pos,after,guard } w) (ρ x):=Wm w ρ dst ty pos after guard t e n b z x ht hi hz hn hp
@[go_sem ↓ high] theorem E8i (w : World) (ρ : Operand → Value) (dst : Option Tmp) (ty : TypeId) (pos : String) (after : Array Edge) (guard : Option (Nat × Bool)) (x : Operand) :
 (execOp ρ { dst,op:=.buildSlice 42 1 #[(0,x)],type:=ty,pos,after,guard }).run Tryz.prog w=Lj 32 23 w (M6 Tryz.prog ρ { dst,op:=.buildSlice 42 1 #[(0,x)],type:=ty,pos,after,guard } w) (ρ x):=
 D5u Tryz.underlying42 B7v (by simp[A8,Value.cells]) (by decide) (by decide) w ρ dst ty pos after guard x
end
theorem D3v (W:World) (c:Int) (b:UInt8) (hc:c=n8 b):By (W.alloc (.cells #[.int .u8 c] 5)) 0 (W.alloc (.cells #[.int .u8 c] 5)).heap.size (.slice (some ⟨W.heap.size,0,none⟩) 1 1) [b]:=by
 have:=By.build W 5 (0,0) [b] (by simp);subst hc;simpa [v8] using this
theorem D4d {a b c:List UInt8} {x y z:Nat} (h1:a.length=x) (h2:b.length=y) (h3:c.length=z) (hs:x+y+z≤1099511627776):[a,b,c].flatten.length≤1099511627776:=by simp[h1,h2,h3];omega
def Pm (ls:List (List UInt8)):List UInt8:=Kg ls.flatten
@[simp, go_sem] theorem Dx (ls : List (List UInt8)) : (Pm ls).length = 32 := Ek _
theorem B7a (v:Value) (ls:List (List UInt8)) (w:World) (hp:L6 w w.heap.size v ls) (hsz:ls.flatten.length≤1099511627776) :
 Calls Tryz.prog 53 #[v] w fun e w'=>e=.returned (A8 (Pm ls))∧Below w.heap.size w w':=Jd v ls w hp hsz
def Aq (ks:List (List UInt8)):Nat→List UInt8
 | 0=>z8 32
 | i+1=>Pm [[3],Aq ks i,gl ks i]
@[simp, go_sem] theorem Eg (ks : List (List UInt8)) : ∀ i, (Aq ks i).length = 32
 | 0=>by simp[Aq]
 | i+1=>Dx _
def Ay (ks:List (List UInt8)):List UInt8:=Pm [[2],U9 (UInt64.ofNat ks.length),Aq ks ks.length]
theorem Co (ks:List (List UInt8)):(Ay ks).length=32:=Dx _
theorem Nq (v:Value) (ks:List (List UInt8)) (w:World) (hv:Hs w 0 w.heap.size v ks) (hkn:ks.length≤1000000):Calls Tryz.prog 31 #[v] w fun e w'=>e=.returned (A8 (Ay ks))∧Below w.heap.size w w':=by
 obtain⟨A,c,rfl,eD,eL⟩:=hv.form;have HV:=Lib.hid hv;have dJ:=hv.1;obtain⟨n,hn⟩:∃n,n=ks.length:=⟨_,rfl⟩;have hw:IntKind.u64.wrap (n:Int)=J0 (UInt64.ofNat n):=by rw[Fz];unfold J0;simp
 have HN:=Lib.hid hn;rw[←hn]at eD hkn ⊢;have eE:=Lib.hid dJ;clear hv dJ hn;have HE:Hid (Ay ks=Pm [[2],U9 (UInt64.ofNat n),Aq ks n]):=Lib.hid (by rw[HN.out];rfl);obtain⟨W0,cO⟩:∃z,z=(w.alloc (Obj.cells (c8 (z8 32)).toArray 23)):=⟨_,rfl⟩;have hL:W0=Q5 w [(23,(c8 (z8 32)))]:=cO;have B0:Below w.heap.size w W0:=by rw[hL];exact J9 _ _
 have aU:Bk W0 (w.heap.size) 23 (c8 (z8 32)):=by rw[hL];exact F9 _ w 0 _ _ rfl
 have z0:w.heap.size+1≤W0.heap.size:=by rw[hL,H9];simp
 have dK:W0.heap.size=w.heap.size+1:=by rw[hL,H9];rfl
 clear hL;obtain⟨V1,bH⟩:∃z,z=W0.alloc (Obj.cells (c8 (z8 32)).toArray 23):=⟨_,rfl⟩;have cP:W0.heap.size=w.heap.size+1:=dK;have aM:Bk V1 (w.heap.size+1) 23 (c8 (z8 32)):=by rw[bH,←cP];exact Bk.new W0 _ _
 have aN:Bk V1 (w.heap.size) 23 (c8 (z8 32)):=by rw[bH];exact aU.alloc _
 have dL:Below w.heap.size w V1:=by rw[bH];exact B0.alloc B0.size _
 have bM:w.heap.size<w.heap.size+1:=by rw[←cP];exact aU.lt
 have dM:w.heap.size+1≤w.heap.size+1:=by omega
 clear cP;go_enter Tryz.func31,Tryz.ntmps31;go_wp2_with fail;rw[←cO,←bH];have dN:w.heap.size+1≤V1.heap.size:=by have hz:=z0;rw[bH];first | (simp;omega) | (simp[World.setCell];omega)
 clear cO bH dK aU B0 z0;go_loopw [8] (fun x8 wr=>∃m:Nat,0≤m∧m≤n∧x8=.int .i64 (m:Int)∧Bk wr (w.heap.size) 23 (c8 (z8 32))∧Bk wr (w.heap.size+1) 23 (c8 (Aq ks m))∧Below w.heap.size w wr∧w.heap.size+1≤wr.heap.size) (fun x8 _=>n-(intOf x8).toNat)
 case atStart=>exact ⟨0,by omega,by omega,rfl,aN,aM,dL,dN⟩
 case round=>
  clear dL dN aN aM;obtain⟨m,bI,hm,rfl,aC,aA,bJ,bN⟩:=hrel;by_cases hltm:m<n
  ·
   have hd:decide ((m:Int)<(n:Int))=true:=decide_eq_true (by omega);have eM:decide (m<n)=true:=decide_eq_true hltm;obtain⟨kk,aV⟩:∃k,k=gl ks m:=⟨_,rfl⟩;have bI:m<ks.length:=by rw[←HN.out];exact hltm
   have cQ:ks[m]?=some kk:=by rw[aV];unfold gl;rw[List.getElem?_eq_getElem bI];simp[bI]
   have cM:kk.length=32:=eE.out kk (List.mem_of_getElem? cQ);have HD:Hid (Aq ks (m+1)=Pm [[3],Aq ks m,kk]):=Lib.hid (by rw[aV];rfl);obtain⟨g,o,hA,hg,bO⟩:∃g o,A=some ⟨g,o,none⟩∧g<w.heap.size∧E5 w ⟨g,o+m*32,none⟩ 32=some (c8 kk):=by
    obtain⟨g,o,c',hh⟩:=HV.out.row;rcases hh with ⟨hr,_,hg,hA,_,_⟩ | h0
    ·injection hA with hA;exact ⟨g,o,hA,hg,hr m kk cQ⟩
    ·rw[h0]at bI;simp at bI
   subst hA;have eF:=(Bw (a:=⟨g,o+m*32,none⟩) bJ hg).trans bO;clear aV bI cQ bO;obtain⟨V2,aO⟩:∃z,z=wr.alloc (Obj.cells (c8 (z8 32)).toArray 23):=⟨_,rfl⟩;have bP:wr.heap.size=wr.heap.size:=rfl;have aF:Bk V2 (wr.heap.size) 23 (c8 (z8 32)):=by rw[aO,←bP];exact Bk.new wr _ _
   have aP:Bk V2 (w.heap.size) 23 (c8 (z8 32)):=by rw[aO];exact aC.alloc _
   have aQ:Bk V2 (w.heap.size+1) 23 (c8 (Aq ks m)):=by rw[aO];exact aA.alloc _
   have dO:Below w.heap.size w V2:=by rw[aO];exact bJ.alloc bJ.size _
   have aG:w.heap.size<wr.heap.size:=by rw[←bP];exact aC.lt
   have aH:w.heap.size+1<wr.heap.size:=by rw[←bP];exact aA.lt
   have bQ:w.heap.size+1≤wr.heap.size:=by rw[←bP];exact Nat.le_trans bN (Nat.le_refl _)
   clear bP;obtain⟨V3,aW⟩:∃z,z=C9 V2 ⟨wr.heap.size,0,none⟩ (c8 kk):=⟨_,rfl⟩;have aB:Bk V3 (wr.heap.size) 23 (c8 kk):=by rw[aW];exact Bk.put8 (aF) ((show (z8 32).length=32 from by simp)) (cM)
   have aI:Bk V3 (w.heap.size) 23 (c8 (z8 32)):=by rw[aW];exact aP.putFar (p:=⟨wr.heap.size,0,none⟩) (by show w.heap.size≠wr.heap.size;omega) _
   have aD:Bk V3 (w.heap.size+1) 23 (c8 (Aq ks m)):=by rw[aW];exact aQ.putFar (p:=⟨wr.heap.size,0,none⟩) (by show w.heap.size+1≠wr.heap.size;omega) _
   have cR:Below w.heap.size w V3:=by rw[aW];exact C1 dO (by show w.heap.size≤wr.heap.size;omega) _
   have cS:=eF;have aR:E8 V2 ⟨wr.heap.size,0,none⟩ 32=true:=Bk.can8 (aF) ((show (z8 32).length=32 from by simp));rw[aO]at aR;have cT:kk.length=32:=cM;go_wp2_with fail;rw[←aO,←aW];clear cS aR cT;obtain⟨p4,cU⟩:∃g,g=wr.heap.size:=⟨_,rfl⟩;rw[←cU]at aB aG aH bQ;try rw[←cU]
   have dQ:w.heap.size+1≤V3.heap.size:=by have hz:=bN;rw[aW,aO];first | (simp;omega) | (simp[World.setCell];omega)
   clear aO aW cU bN aP aQ aF dO;have S5:Below V3.heap.size V3 V3.drew:=(Below.refl _ _).drew;refine F2 (fun W=>True) (by kernel_rfl) ?_;refine C6 (A:=?eN) [1,2] (by kernel_rfl) (by kernel_rfl) rfl (by kernel_rfl) (by kernel_rfl) trivial (h:=fun W hW=>?eG) (hr:=?eO);case eG=>
    simp only[pick,List.getElem?_cons_zero,List.getElem?_cons_succ];repeat (go_big_quiet_step (fail))
    refine wpQuiet_nil ?_;rfl
   refine N9 [zb 0 12 [3],zs 3 15 3 [[3],(Aq ks m),kk],zv 4 16 (A8 (Pm [[3],(Aq ks m),kk]))] (by kernel_rfl) (fun W hW=>trivial) ?bR ?bS ?bT;case bR=>exact (List.forall_mem_cons.2 ⟨zb_mono _ _ _,(List.forall_mem_cons.2 ⟨zs_mono _ _ _ _,(List.forall_mem_cons.2 ⟨H7 _ _ _,(fun _ h=>by cases h)⟩)⟩)⟩)
   case bS=>
    refine (List.forall_mem_cons.2 ⟨?cV,(List.forall_mem_cons.2 ⟨?cW,(List.forall_mem_cons.2 ⟨?cX,(fun _ h=>by cases h)⟩)⟩)⟩);case cV=>
     intro o ho us W hW hp Q' hQ';obtain rfl:=Option.some.inj ho;clear hp ho;rw[C2]at hQ' ⊢;dsimp only[E4,E0,List.foldl,zv,za,zs,zp,zb]at hQ' ⊢;simp only[List.set_cons_succ,List.set_cons_zero];go_wp2_with fail;exact C5 (hQ' _ _ ((Below.refl _ _).alloc (Nat.le_refl _) _) (D3v W 3 _ rfl) (fun h=>by cases h)) (by kernel_rfl)
    case cW=>intro o ho us W hW hp Q' hQ';obtain rfl:=Option.some.inj ho;have aJ:By W 0 W.heap.size (us 0) [3]:=hp 0 _ rfl (by kernel_rfl);obtain⟨A0,n0,c0,aX⟩:=aJ.formE;rw[aX]at aJ;have aJ:=Lib.hid aJ;clear hp ho;rw[C2]at hQ' ⊢;dsimp only[E4,E0,List.foldl,zv,za,zs,zp,zb]at hQ' ⊢;simp only[List.set_cons_succ,List.set_cons_zero];rw[aX]at hQ' ⊢;clear aX;have aK:=aD.drew.below hW aD.drew.lt;have bU:=aB.drew.below hW aB.drew.lt;go_wp2_with fail;exact C5 (hQ' _ _ ((Below.refl _ _).alloc (Nat.le_refl _) _) ⟨_,rfl,(L6.three W _ _ _ _ [3] (Aq ks m) kk aJ.out (Bk.byAll (aK) (Eg ks m) (by decide)) (Bk.byAll (bU) cM (by decide))).more (by simp)⟩ (fun h=>by cases h)) (by kernel_rfl)
    case cX=>
     intro o ho us W hW hp Q' hQ';obtain rfl:=Option.some.inj ho;obtain⟨dS,bV,bX⟩:=hp 1 _ rfl (by kernel_rfl);have bV:us 3=.slice (some ⟨dS,0,none⟩) 3 3:=bV;have bX:L6 W W.heap.size (.slice (some ⟨dS,0,none⟩) 3 3) [[3],(Aq ks m),kk]:=by rw[←bV];exact bX
     have bX:=Lib.hid bX;clear hp ho;rw[C2]at hQ' ⊢;dsimp only[E4,E0,List.foldl,zv,za,zs,zp,zb]at hQ' ⊢;simp only[List.set_cons_succ,List.set_cons_zero];rw[bV]at hQ' ⊢;clear bV;go_wp2_with fail;refine (B7a _ [[3],(Aq ks m),kk] W bX.out (D4d rfl (Eg ks m) cM (by decide))).mono ?_;rintro e W2 ⟨rfl,b2⟩;go_wp2_with fail;exact C5 (hQ' _ _ b2 rfl (fun h=>by cases h)) (by kernel_rfl)
   case bT=>
   intro us W6 b7 hg aY cY;have bY:By W6 0 W6.heap.size (us 0) [3]:=hg _ (List.mem_of_getElem? (i:=0) rfl);have bY:=Lib.hid bY;have bK:us 4=(A8 (Pm [[3],(Aq ks m),kk])):=hg _ (List.mem_of_getElem? (i:=2) rfl);have b8:=C0 S5 b7 S5.size;rw[C2];dsimp only[E0,List.foldl,zv,za,zs,zp,zb];simp only[List.set_cons_succ,List.set_cons_zero];rw[bK];clear hg aY cY bK b7 S5;have B6:=C0 cR b8 cR.size;have z6:=Nat.le_trans dQ b8.size;have bZ:=aI.below b8 aI.lt;have aZ:=aD.below b8 aD.lt;have cB:=aB.below b8 aB.lt;clear b8 cR dQ aI aD aB;obtain⟨W9,bB⟩:∃z,z=C9 W6 ⟨w.heap.size+1,0,none⟩ (c8 (Pm [[3],(Aq ks m),kk])):=⟨_,rfl⟩;have cZ:Bk W9 (w.heap.size+1) 23 (c8 (Pm [[3],(Aq ks m),kk])):=by rw[bB];exact Bk.put8 (aZ) ((Eg ks m)) ((Dx [[3],(Aq ks m),kk]))
   have dC:Bk W9 (w.heap.size) 23 (c8 (z8 32)):=by rw[bB];exact bZ.putFar (p:=⟨w.heap.size+1,0,none⟩) (by show w.heap.size≠w.heap.size+1;omega) _
   have eH:Bk W9 (p4) 23 (c8 kk):=by rw[bB];exact cB.putFar (p:=⟨w.heap.size+1,0,none⟩) (by show p4≠w.heap.size+1;omega) _
   have B9:Below w.heap.size w W9:=by rw[bB];exact C1 B6 (by show w.heap.size≤w.heap.size+1;omega) _
   have cC:E8 W6 ⟨w.heap.size+1,0,none⟩ 32=true:=Bk.can8 (aZ) ((Eg ks m));have cD:(Pm [[3],(Aq ks m),kk]).length=32:=(Dx [[3],(Aq ks m),kk]);refine C4 5 (by kernel_rfl) (by rfl) (by rfl) (fun Q' hQ'=>?_);dsimp only[E4];go_wp2_with fail;rw[←bB];refine hQ' _ _ trivial ?_;clear hQ' cC cD;have z9:w.heap.size+1≤W9.heap.size:=by have hz:=z6;rw[bB];simp;omega
   clear bB B6 z6 bZ aZ cB;refine I9 (by kernel_rfl) ?_;go_wp2_with fail;go_roundw;case rel=>exact ⟨m+1,by omega,by omega,by go_num,dC,(by rw[HD.out];exact cZ),B9,z9⟩
   case measure=>simp[intOf];omega
  ·
   obtain rfl:n=m:=by omega
   go_wp2_with fail;have dD:Below wr.heap.size wr wr.drew:=(Below.refl _ _).drew;refine F2 (fun W=>True) (by kernel_rfl) ?_;refine C6 (A:=?eI) [1,2,3,5] (by kernel_rfl) (by kernel_rfl) rfl (by kernel_rfl) (by kernel_rfl) trivial (h:=fun W hW=>?dF) (hr:=?eJ);case dF=>
    simp only[pick,List.getElem?_cons_zero,List.getElem?_cons_succ];repeat (go_big_quiet_step (fail))
    refine wpQuiet_nil ?_;rfl
   refine N9 [zb 0 18 [2],zb 4 22 (U9 (UInt64.ofNat n)),zs 6 24 3 [[2],(U9 (UInt64.ofNat n)),(Aq ks n)],zv 7 25 (A8 (Pm [[2],(U9 (UInt64.ofNat n)),(Aq ks n)]))] (by kernel_rfl) (fun W hW=>trivial) ?bC ?bD ?bE;case bC=>exact (List.forall_mem_cons.2 ⟨zb_mono _ _ _,(List.forall_mem_cons.2 ⟨zb_mono _ _ _,(List.forall_mem_cons.2 ⟨zs_mono _ _ _ _,(List.forall_mem_cons.2 ⟨H7 _ _ _,(fun _ h=>by cases h)⟩)⟩)⟩)⟩)
   case bD=>
    refine (List.forall_mem_cons.2 ⟨?cE,(List.forall_mem_cons.2 ⟨?cF,(List.forall_mem_cons.2 ⟨?cG,(List.forall_mem_cons.2 ⟨?cH,(fun _ h=>by cases h)⟩)⟩)⟩)⟩);case cE=>
     intro o ho us W hW hp Q' hQ';obtain rfl:=Option.some.inj ho;clear hp ho;rw[C2]at hQ' ⊢;dsimp only[E4,E0,List.foldl,zv,za,zs,zp,zb]at hQ' ⊢;simp only[List.set_cons_succ,List.set_cons_zero];go_wp2_with fail;exact C5 (hQ' _ _ ((Below.refl _ _).alloc (Nat.le_refl _) _) (D3v W 2 _ rfl) (fun h=>by cases h)) (by kernel_rfl)
    case cF=>intro o ho us W hW hp Q' hQ';obtain rfl:=Option.some.inj ho;clear hp ho;rw[C2]at hQ' ⊢;dsimp only[E4,E0,List.foldl,zv,za,zs,zp,zb]at hQ' ⊢;simp only[List.set_cons_succ,List.set_cons_zero];go_wp2_with fail;refine (Ph (.slice none 0 0) [] (UInt64.ofNat n) W (.inl ⟨rfl,rfl⟩) (by simp)).mono ?_;rintro e W2 ⟨v2,rfl,dG,b2⟩;have dG:=Lib.hid dG;go_wp2_with fail;exact C5 (hQ' _ _ b2 dG.out.up (fun h=>by cases h)) (by kernel_rfl)
    case cG=>intro o ho us W hW hp Q' hQ';obtain rfl:=Option.some.inj ho;have aJ:By W 0 W.heap.size (us 0) [2]:=hp 0 _ rfl (by kernel_rfl);obtain⟨A0,n0,c0,aX⟩:=aJ.formE;rw[aX]at aJ;have aJ:=Lib.hid aJ;have aS:By W 0 W.heap.size (us 4) (U9 (UInt64.ofNat n)):=hp 1 _ rfl (by kernel_rfl);obtain⟨A4,n4,c4,bK⟩:=aS.formE;rw[bK]at aS;have aS:=Lib.hid aS;clear hp ho;rw[C2]at hQ' ⊢;dsimp only[E4,E0,List.foldl,zv,za,zs,zp,zb]at hQ' ⊢;simp only[List.set_cons_succ,List.set_cons_zero];rw[aX,bK]at hQ' ⊢;clear aX bK;have aK:=aA.drew.below hW aA.drew.lt;go_wp2_with fail;exact C5 (hQ' _ _ ((Below.refl _ _).alloc (Nat.le_refl _) _) ⟨_,rfl,(L6.three W _ _ _ _ [2] (U9 (UInt64.ofNat n)) (Aq ks n) aJ.out aS.out (Bk.byAll (aK) (Eg ks n) (by decide))).more (by simp)⟩ (fun h=>by cases h)) (by kernel_rfl)
    case cH=>
     intro o ho us W hW hp Q' hQ';obtain rfl:=Option.some.inj ho;have aS:By W 0 W.heap.size (us 4) (U9 (UInt64.ofNat n)):=hp 1 _ rfl (by kernel_rfl);have aS:=Lib.hid aS;obtain⟨dT,cI,cJ⟩:=hp 2 _ rfl (by kernel_rfl);have cI:us 6=.slice (some ⟨dT,0,none⟩) 3 3:=cI;have cJ:L6 W W.heap.size (.slice (some ⟨dT,0,none⟩) 3 3) [[2],(U9 (UInt64.ofNat n)),(Aq ks n)]:=by rw[←cI];exact cJ
     have cJ:=Lib.hid cJ;clear hp ho;rw[C2]at hQ' ⊢;dsimp only[E4,E0,List.foldl,zv,za,zs,zp,zb]at hQ' ⊢;simp only[List.set_cons_succ,List.set_cons_zero];rw[cI]at hQ' ⊢;clear cI;go_wp2_with fail;refine (B7a _ [[2],(U9 (UInt64.ofNat n)),(Aq ks n)] W cJ.out (D4d rfl (A9n (UInt64.ofNat n)) (Eg ks n) (by decide))).mono ?_;rintro e W2 ⟨rfl,b2⟩;go_wp2_with fail;exact C5 (hQ' _ _ b2 rfl (fun h=>by cases h)) (by kernel_rfl)
   case bE=>
   intro us bL dU hg aY cY;have bY:By bL 0 bL.heap.size (us 0) [2]:=hg _ (List.mem_of_getElem? (i:=0) rfl);have bY:=Lib.hid bY;have dW:By bL 0 bL.heap.size (us 4) (U9 (UInt64.ofNat n)):=hg _ (List.mem_of_getElem? (i:=1) rfl);have dW:=Lib.hid dW;have dX:us 7=(A8 (Pm [[2],(U9 (UInt64.ofNat n)),(Aq ks n)])):=hg _ (List.mem_of_getElem? (i:=3) rfl);have cK:=C0 dD dU dD.size;rw[C2];dsimp only[E0,List.foldl,zv,za,zs,zp,zb];simp only[List.set_cons_succ,List.set_cons_zero];rw[dX];clear hg aY cY dX dU dD;have dY:=C0 bJ cK bJ.size;have dZ:=Nat.le_trans bN cK.size;have aL:=aC.below cK aC.lt;have aT:=aA.below cK aA.lt;clear cK bJ bN aC aA;obtain⟨cN,aE⟩:∃z,z=C9 bL ⟨w.heap.size,0,none⟩ (c8 (Pm [[2],(U9 (UInt64.ofNat n)),(Aq ks n)])):=⟨_,rfl⟩;have cL:Bk cN (w.heap.size) 23 (c8 (Pm [[2],(U9 (UInt64.ofNat n)),(Aq ks n)])):=by rw[aE];exact Bk.put8 (aL) ((show (z8 32).length=32 from by simp)) ((Dx [[2],(U9 (UInt64.ofNat n)),(Aq ks n)]))
   have eC:Bk cN (w.heap.size+1) 23 (c8 (Aq ks n)):=by rw[aE];exact aT.putFar (p:=⟨w.heap.size,0,none⟩) (by show w.heap.size+1≠w.heap.size;omega) _
   have eK:Below w.heap.size w cN:=by rw[aE];exact C1 dY (by show w.heap.size≤w.heap.size;omega) _
   have bF:E8 bL ⟨w.heap.size,0,none⟩ 32=true:=Bk.can8 (aL) ((show (z8 32).length=32 from by simp));have bG:(Pm [[2],(U9 (UInt64.ofNat n)),(Aq ks n)]).length=32:=(Dx [[2],(U9 (UInt64.ofNat n)),(Aq ks n)]);refine C4 8 (by kernel_rfl) (by rfl) (by rfl) (fun Q' hQ'=>?_);dsimp only[E4];go_wp2_with fail;rw[←aE];refine hQ' _ _ trivial ?_;clear hQ' bF bG;have eP:w.heap.size+1≤cN.heap.size:=by have hz:=dZ;rw[aE];simp;omega
   clear aE dY dZ aL aT;refine I9 (by kernel_rfl) ?_;go_wp2_with fail;have dI:(Pm [[2],(U9 (UInt64.ofNat n)),(Aq ks n)]).length=32:=(Dx [[2],(U9 (UInt64.ofNat n)),(Aq ks n)]);refine bodyPost_ret (E9 rfl _ _ _ _ _ _ rfl cL Tryz.underlying23 rfl (by simp[N6,dI])) rfl ⟨by rw[HE.out];rfl,eK⟩
theorem Hs.at_ {w:World} {B:Nat} {A:Option Addr} {n c:Nat} {ks:List (List UInt8)} (h:Hs w 0 B (.slice A n c) ks) {m:Nat} {k:List UInt8} (hk:ks[m]?=some k):∃g o,A=some ⟨g,o,none⟩∧g<B∧E5 w ⟨g,o+m*32,none⟩ 32=some (c8 k):=by
 obtain⟨g,o,c',hh⟩:=h.row;rcases hh with ⟨hr,_,hg,hA,_,_⟩ | h0
 ·injection hA with hA;exact ⟨g,o,hA,hg,hr m k hk⟩
 ·rw[h0]at hk;simp at hk
theorem Me (va vb:Value) (ks:List (List UInt8)) (w:World) (ha:Hs w 0 w.heap.size va ks) (hb:Hs w 0 w.heap.size vb ks):Calls Tryz.prog 12 #[va,vb] w fun e w'=>e=.returned (.bool true)∧Below w.heap.size w w':=by
 obtain⟨A,c,rfl,aE,aI⟩:=ha.form;obtain⟨A',c',rfl,aA,aF⟩:=hb.form;have HA:=Lib.hid ha;have HB:=Lib.hid hb;have aG:=Lib.hid ha.1;obtain⟨n,hn⟩:∃n,n=ks.length:=⟨_,rfl⟩;have HN:=Lib.hid hn;rw[←hn]at aE aA HA HB ⊢;clear ha hb hn;go_enter Tryz.func12,Tryz.ntmps12;go_wp2_with fail;go_loopw [13] (fun x wr=>∃m:Nat,m≤n∧x=.int .i64 (m:Int)∧Below w.heap.size w wr) (fun x _=>n-(intOf x).toNat)
 case atStart=>exact ⟨0,by omega,rfl,Below.refl _ _⟩
 case round=>
  obtain⟨m,hm,rfl,Br⟩:=hrel;by_cases hlt:m<n
  ·have hd:decide ((m:Int)<(n:Int))=true:=decide_eq_true (by omega);have aB:m<ks.length:=by rw[←HN.out];exact hlt
   obtain⟨k,hk⟩:∃k,ks[m]?=some k:=⟨_,List.getElem?_eq_getElem aB⟩;have aJ:k.length=32:=aG.out k (List.mem_of_getElem? hk);obtain⟨g,o,rfl,hg,hr⟩:=HA.out.at_ hk;obtain⟨g',o',rfl,aH,aC⟩:=HB.out.at_ hk;have r1:=(Bw (a:=⟨g,o+m*32,none⟩) Br hg).trans hr;have r2:=(Bw (a:=⟨g',o'+m*32,none⟩) Br aH).trans aC;have aD:(m:Int)<(n:Int):=by omega
   clear hk hr aC aB;go_wp2_with fail;go_quiet (fail);go_wp2_with fail;go_roundw;case rel=>exact ⟨m+1,by omega,by go_num,U1 Br _⟩
   case measure=>simp[intOf];omega
  ·obtain rfl:m=n:=by omega
   go_wp2_with fail;go_ret;exact ⟨rfl,Br⟩
end Go.Proofs.YtlegpkdighoflaaGreat
