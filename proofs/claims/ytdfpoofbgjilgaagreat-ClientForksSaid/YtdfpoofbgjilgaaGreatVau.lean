/- A part of the proof of ClientForks. -/
import Derived.Outline
import Derived.Maps.AppendAt
import Derived.Test.YtdfpoofbgjilgaaGreatVat
set_option linter.unusedVariables false
set_option linter.unusedSimpArgs false
set_option maxRecDepth 100000
set_option maxHeartbeats 40000000
namespace Go.Proofs.YtdfpoofbgjilgaaGreat
open Go Go.RowKit Sh
section
def pb (p:Pr):List UInt8:=p.1++p.2
def Kw (p:Pr):Prop:=p.1.length=32∧p.2.length=32
theorem Kw.len {p:Pr} (h:Kw p):(pb p).length=64:=by unfold pb;rw[List.length_append,h.1,h.2]
theorem E9y:(Tryz.prog.info? 198).map (fun i=>(i.zero,i.size,i.bytes))=some (some (A8 (z8 64)),64,64):=by kernel_rfl
theorem D7i:(Tryz.prog.info? 198).map (·.size)=some 64:=by kernel_rfl
theorem D8h:((Tryz.prog.info? 198).bind (·.zero))=some (A8 (z8 64)):=by kernel_rfl
theorem C0r:Tryz.prog.underlying 198=some (.struct (I2 Tryz.prog 198)):=by kernel_rfl
theorem D3h (w:World):(Z3 (I2 Tryz.prog 198)).run Tryz.prog w=.ok #[(0,32),(32,32)] w:=by kernel_rfl
def Fu (n:Nat) (t:TypeId) (w:World) (raw:Result Next):Value→Result Next
 | .agg cs=>if cs.size=n then .ok (.value (.slice (some ⟨w.heap.size,0,none⟩) 1 1)) (w.alloc (.cells cs t)) else raw
 | _=>raw
@[go_sem] theorem E8j (n : Nat) (t : TypeId) (w : World) (raw : Result Next) (l : List UInt8) : Fu n t w raw (A8 l) = if l.length = n then .ok (.value (.slice (some ⟨w.heap.size, 0, none⟩) 1 1)) (w.alloc (.cells (c8 l).toArray t)) else raw := by
 have e:Fu n t w raw (A8 l)=if (c8 l).toArray.size=n then .ok (.value (.slice (some ⟨w.heap.size,0,none⟩) 1 1)) (w.alloc (.cells (c8 l).toArray t)) else raw:=rfl;rw[e];simp only[List.size_toArray,C6]
theorem C7y {P:Program} (w:World) (ρ:Operand→Value) (dst:Option Tmp) (ty:TypeId) (pos:String) (after:Array Edge) (guard:Option (Nat×Bool)) (t e n:Nat) (z:Value) (x:Operand)
 (ht:P.underlying t=some (.slice e)) (hi:(P.info? e).map (fun i=>(i.zero,i.size,i.bytes))=some (some z,n,n)) (hz:z.cells.size=n) (hn:n≤16777216) (hp:n≠0) :
 (execOp ρ { dst,op:=.buildSlice t 1 #[(0,x)],type:=ty,pos,after,guard }).run P w=Fu n e w (F2 P ρ { dst,op:=.buildSlice t 1 #[(0,x)],type:=ty,pos,after,guard } w) (ρ x):=by
 generalize hv:ρ x=v;unfold Fu;split
 ·rename_i cs
  split
  ·rename_i hcs
   cases hq:P.info? e with
   | none=>simp[hq]at hi
   | some i=>
    simp only[hq,Option.map_some,Option.some.injEq,Prod.mk.injEq]at hi;obtain⟨h1,h2,_⟩:=hi;have hf:Instr.fill (fun i=>some (i*n,n)) ((Array.range (1*n)).map (fun j=>z.cells[j % z.cells.size]!)) [(0,Value.agg cs)]=some cs:=by
     have aA:((Array.range (1*n)).map (fun j=>z.cells[j % z.cells.size]!)).size=n:=by simp
     generalize (Array.range (1*n)).map (fun j=>z.cells[j % z.cells.size]!)=m at *;have h3:=Pw (fun i=>some (i*n,n)) [(0,Value.agg cs)] [(0,cs.toList)] m.toList ⟨by simp[hcs],rfl,by simp[hcs,aA],trivial⟩;rw[Array.toArray_toList]at h3;rw[h3];simp[Bg,N9,hcs,aA,List.drop_eq_nil_of_le]
    have aB:¬ (16777216<n):=by omega
    have hr:(Instr.buildSlice t 1 #[(0,Value.agg cs)]).run P w=.ok (.slice (some ⟨w.heap.size,0,none⟩) 1 1) (w.alloc (.cells cs e)):=by unfold Instr.buildSlice;simp only[Sem.run_bind,run_underlying ht,Result.andThen_ok,sizeOf,typeInfo,Sem.run_pure];simp only[Nat.one_mul]at hf;simp[hq,h2,aB,hp,zeroValue,typeInfo,h1,newRow];rw[hf];rfl
    simp only[execOp,List.map_toArray,List.map_cons,List.map_nil,hv,Sem.run_bind,hr,Result.andThen_ok,Sem.run_pure]
  ·rfl
 ·rfl
section
variable (w : World) (ρ : Operand → Value) (dst : Option Tmp) (ty : TypeId) (pos : String) (after : Array Edge) (guard : Option (Nat × Bool))
@[go_sem ↓ high] theorem E2z:RL' 198 64:=LL' C0r D7i
@[go_sem ↓ high] theorem E1r:RS' 198 64:=SS' D7i
@[go_sem ↓ high] theorem E0u:RA' 198 (c8 (z8 64)).toArray:=fun w ρ dst ty pos after guard=>I7 w ρ dst ty pos after guard 198 (A8 (z8 64)) D8h
@[go_sem ↓ high] theorem E5g:RB' 198:=BX' _
@[go_sem ↓ high] theorem E8l (x : Operand) :
 (execOp ρ { dst,op:=.buildSlice 140 1 #[(0,x)],type:=ty,pos,after,guard }).run Tryz.prog w=Fu 64 198 w (F2 Tryz.prog ρ { dst,op:=.buildSlice 140 1 #[(0,x)],type:=ty,pos,after,guard } w) (ρ x):=
 C7y w ρ dst ty pos after guard 140 198 64 (A8 (z8 64)) x Tryz.underlying140 E9y (by simp[A8,Value.cells]) (by decide) (by decide)
end
noncomputable def Uv (w:World) (raw:Result Next) (k v:Value):Result Next:=
 match T5 k,T5 v with
 | some k,some v=>if k.length=32∧v.length=32 then .ok (.value (A8 (pb (k,v)))) w else raw
 | _,_=>raw
@[go_sem] theorem E3d (w : World) (raw : Result Next) (k v : List UInt8) (hk : k.length = 32) (hv : v.length = 32) : Uv w raw (A8 k) (A8 v) = .ok (.value (A8 (pb (k, v)))) w := by
 unfold Uv;rw[U5,U5];simp[hk,hv]
theorem C8f (k v:List UInt8) (hk:k.length=32) (hv:v.length=32) (w:World):(Instr.build 198 #[(0,A8 k),(1,A8 v)]).run Tryz.prog w=.ok (A8 (pb (k,v))) w:=by
 have hz:(A8 (z8 64)).cells.toList=c8 (z8 64):=rfl;have hl:(c8 (z8 64)).length=64:=by simp
 have h1:=I3 C0r D8h w (D3h w) #[(0,A8 k),(1,A8 v)] [(0,c8 k),(32,c8 v)] (by
  rw[hz,hl];exact ⟨by simp[hk],rfl,by simp[hk],by simp[hv],rfl,by simp[hv],trivial⟩)
 refine h1.trans (congrArg (fun (cs:List Value)=>Result.ok (Value.agg cs.toArray) w) ?_);rw[hz];simp[Bg,N9,hk,hv,List.take_append,List.drop_append,List.drop_eq_nil_of_le,List.take_of_length_le,pb,c8]
@[go_sem ↓ high] theorem E2n (w : World) (ρ : Operand → Value) (dst : Option Tmp) (ty : TypeId) (pos : String) (after : Array Edge) (guard : Option (Nat × Bool)) (x y : Operand) :
 (execOp ρ { dst,op:=.build 198 #[(0,x),(1,y)],type:=ty,pos,after,guard }).run Tryz.prog w=Uv w (F2 Tryz.prog ρ { dst,op:=.build 198 #[(0,x),(1,y)],type:=ty,pos,after,guard } w) (ρ x) (ρ y):=by
 generalize hx:ρ x=a;generalize hy:ρ y=b;unfold Uv;split
 ·rename_i k v h1 h2
  replace h1:=J4 h1;replace h2:=J4 h2;split
  ·rename_i h
   refine E9 w ρ dst ty pos after guard _ _ _ ?_;simp only[List.map_toArray,List.map_cons,List.map_nil,hx,hy,h1,h2];exact C8f k v h.1 h.2 w
  ·rfl
 ·rfl
section
variable {w : World} {g : Nat} {t : TypeId} {p : Pr}
theorem Mm (h:Bk w g t (c8 (pb p))) (hp:Kw p):D9 w ⟨g,0,none⟩ 32=some (c8 p.1):=by
 have:=h.rowMid 0 32 (by rw[C6,hp.len];omega);rw[this];simp[pb,c8,hp.1]
theorem Sz (h:Bk w g t (c8 (pb p))) (hp:Kw p):D9 w ⟨g,32,none⟩ 32=some (c8 p.2):=by
 have:=h.rowMid 32 32 (by rw[C6,hp.len];omega);rw[this];simp[pb,c8,hp.1,hp.2,List.take_of_length_le]
theorem Bk.fresh (w:World) (t:TypeId) {l m:List UInt8} (h:l.length=m.length):Bk (C4 (w.alloc (.cells (c8 l).toArray t)) ⟨w.heap.size,0,none⟩ (c8 m)) w.heap.size t (c8 m):=(Bk.new w t (c8 l)).puts (by simp[h])
@[go_sem] theorem E4e (w : World) (t : TypeId) (p : Pr) (hp : Kw p) : D9 (w.alloc (.cells (c8 (pb p)).toArray t)) ⟨w.heap.size, 0, none⟩ 32 = some (c8 p.1) := Mm (Bk.new w t _) hp
@[go_sem] theorem E2y (w : World) (t : TypeId) (p : Pr) (hp : Kw p) : D9 (w.alloc (.cells (c8 (pb p)).toArray t)) ⟨w.heap.size, 32, none⟩ 32 = some (c8 p.2) := Sz (Bk.new w t _) hp
end
end
section
open Classical in
noncomputable def Se (a b:List UInt8):Bool:=decide (klt a b)
theorem U1 {a b:List UInt8}:Se a b=true↔klt a b:=by unfold Se;simp
noncomputable def F1s (k:List UInt8) (m:List Pr):Bool:=m.any fun q=>!Se q.1 k
noncomputable def E8i (k x:List UInt8) (m:List Pr):List Pr:=(m.filter fun q=>Se q.1 k)++(if F1s k m then [(k,x)] else [])++(m.filter fun q=>Se k q.1)
noncomputable def B3n (k x:List UInt8) (m:List Pr):List Pr:=(m.filter fun q=>Se q.1 k)++[(k,x)]++(m.filter fun q=>Se k q.1)
def D5y (l:List Pr):Prop:=(∀p∈l,p.1.length=32∧p.2.length=32)∧l.Pairwise fun x y=>klt x.1 y.1
section
variable {k x : List UInt8} {m : List Pr} {q : Pr}
theorem F3d (hk:k.length=32) (hx:x.length=32) (h:∀p∈m,p.1.length=32∧p.2.length=32):∀p∈E8i k x m,p.1.length=32∧p.2.length=32:=by
 intro p hp;unfold E8i at hp;simp only[List.mem_append,List.mem_filter]at hp;rcases hp with (hp | hp) | hp
 ·exact h p hp.1
 ·split at hp
  ·simp at hp;subst hp;exact ⟨hk,hx⟩
  ·simp at hp
 ·exact h p hp.1
theorem C4r (hk:k.length=32) (hx:x.length=32) (h:D5y m):D5y (B3n k x m):=by
 constructor
 ·intro p hp;simp only[B3n,List.mem_append,List.mem_filter,List.mem_singleton]at hp;rcases hp with (hp | rfl) | hp
  ·exact h.1 p hp.1
  ·exact ⟨hk,hx⟩
  ·exact h.1 p hp.1
 ·unfold B3n;rw[List.pairwise_append,List.pairwise_append];refine ⟨⟨h.2.filter _,List.pairwise_singleton _ _,fun a ha b hb=>?_⟩,h.2.filter _,fun a ha b hb=>?_⟩
  ·simp at hb;subst hb;exact U1.1 (List.mem_filter.1 ha).2
  ·have aA:=U1.1 (List.mem_filter.1 hb).2;rcases List.mem_append.1 ha with ha | ha
   ·exact (U1.1 (List.mem_filter.1 ha).2).trans aA
   ·simp at ha;subst ha;exact aA
theorem C9l (hk:k.length=32) (h:D5y m) (p:Pr):p∈B3n k x m↔p=(k,x)∨(p∈m∧p.1≠k):=by
 simp only[B3n,List.mem_append,List.mem_filter,List.mem_singleton];constructor
 ·rintro ((⟨h1,h2⟩ | rfl) | ⟨h1,h2⟩)
  ·exact .inr ⟨h1,(U1.1 h2).ne⟩
  ·exact .inl rfl
  ·exact .inr ⟨h1,fun e=>(U1.1 h2).ne e.symm⟩
 ·rintro (rfl | ⟨h1,h2⟩)
  ·exact .inl (.inr rfl)
  ·rcases klt.total (h.1 p h1).1 hk h2 with h3 | h3
   ·exact .inl (.inl ⟨h1,U1.2 h3⟩)
   ·exact .inr ⟨h1,U1.2 h3⟩
end
theorem Ok.rise {t:Tr} {d:Nat} {P:Nat→Bool} (ok:Ok d P t):D5y t.pairs:=⟨fun p hp=>⟨(Ok.keys ok p hp).1,(Ok.keys ok p hp).2.1⟩,ok.sorted⟩
theorem C1y {k x:List UInt8} {t:Tr} {P:Nat→Bool} (hk:k.length=32) (hx:x.length=32) (ok:Ok 0 P t):B3n k x t.pairs=(Fk k x 256 0 t).pairs:=by
 have hi:=Np k x hk hx 256 0 t P (by omega) (fun i hi=>by omega) ok;refine Sa (C4r hk hx ok.rise).2 hi.sorted fun p=>?_;rw[C9l hk ok.rise,Df k x hk 256 0 t P (by omega) (fun i hi=>by omega) ok]
end
theorem Jq {α:Type} {l:List α} {i:Nat} {q:α} (h:l[i]?=some q):l.take (i+1)=l.take i++[q]:=by rw[List.take_add_one,h];rfl
theorem By.of_row {w:World} {g o n:Nat} {l:List UInt8} (h:D9 w ⟨g,o,none⟩ n=some (c8 l)) (hg:g<w.heap.size) (hn:n≤9223372036854775807):By w 0 w.heap.size (.slice (some ⟨g,o,none⟩) n n) l:=by
 obtain⟨h1,h2⟩:=Z0.1 h;rw[C6]at h1;subst h1;exact By.mk_ (Nat.le_refl _) (by unfold maxLen;exact hn) (.inr ⟨g,o,rfl,Nat.zero_le _,hg,fun j u hj=>h2 j u hj⟩)
section
def P0:Nat→Bool:=fun _=>false
def Okt (t:Tr):Prop:=Ok 0 P0 t
def A1n (t:Tr) (k v:List UInt8):Tr:=Fk k v 256 0 t
def F8o (l:List Pr) (t:Tr):Tr:=l.foldl (fun t p=>A1n t p.1 p.2) t
section
variable {t : Tr} {k v : List UInt8}
theorem Okt.put (ok:Okt t) (hk:k.length=32) (hv:v.length=32):Okt (A1n t k v):=Np k v hk hv 256 0 t P0 (by omega) (fun i hi=>by omega) ok
theorem F0x (ok:Okt t) (hk:k.length=32) (x:Pr):x∈(A1n t k v).pairs↔x=(k,v)∨(x∈t.pairs∧x.1≠k):=Df k v hk 256 0 t P0 (by omega) (fun i hi=>by omega) ok x
theorem D1s (ok:Okt t) (hk:k.length=32):(A1n t k v).len≤t.len+1:=by
 unfold A1n;rw[V7 k v hk 256 0 t P0 (by omega) (fun i hi=>by omega) ok];split<;>omega
theorem Okt.nil:Okt .e:=trivial
end
end
section
section
variable {w : World} {base : Nat} {v : Value} {e : TypeId} {sz n : Nat} {xs : List Value}
theorem Be (h:w.ownsRow base e sz v n xs):∃A c,v=.slice A n c∧n≤c∧c≤9223372036854775807:=by
 rcases h.2 with ⟨rfl,rfl⟩ | ⟨g,cap,cur,rfl,_,_,h1,h2,_⟩
 ·exact ⟨none,0,rfl,Nat.le_refl _,by omega⟩
 ·exact ⟨_,cap,rfl,h1,by unfold maxLen at h2;exact h2⟩
theorem Iv {w':World} {B:Nat} (h:w.ownsRow base e sz v n xs) (hb:Below B w w') (hB:w.heap.size≤B):w'.ownsRow base e sz v n xs:=by
 refine World.ownsRow.kept (row:=none) h ⟨hb.os,hb.tape,hb.output,hb.size,fun k hk _=>hb.block k (by omega)⟩ ?_;cases hv:v.ownBlock<;>simp
theorem Sp {base':Nat} (h:w.ownsRow base e sz v n xs) (hb:base'≤base):w.ownsRow base' e sz v n xs:=by
 refine ⟨h.1,?_⟩;rcases h.2 with h2 | ⟨g,cap,cur,hv,hg,r⟩
 ·exact .inl h2
 ·exact .inr ⟨g,cap,cur,hv,by omega,r⟩
theorem Qt {n' c:Nat} {A:Option Addr} (h:w.ownsRow base e sz (.slice A n' c) n xs):Rd w base w.heap.size A xs:=by
 rcases h.2 with ⟨hv,hn⟩ | ⟨g,cap,cur,hv,hbg,hh,_⟩
 ·subst hn;exact .inl (List.eq_nil_of_length_eq_zero (by rw[h.1,Nat.zero_mul]))
 ·have hA:A=Option.some ⟨g,0,none⟩:=by injection hv
  subst hA;refine .inr ⟨g,0,rfl,hbg,(Array.getElem?_eq_some_iff.1 hh).1,fun j u hu=>?_⟩;have:=h.cells (g:=g) rfl j u hu;rwa [Q3]at this
variable {P : Program} {ops : Array Oper} {rest : List Oper} {o : Oper} {a : Act} {Q : Exit → Act → World → Prop}
theorem D1h (t:TypeId) (z:Value) (bytes:Nat) (ht:P.underlying t=some (.slice e)) (hinf:(P.info? e).map (fun i=>(i.zero,i.size,i.bytes))=some (some z,sz,bytes)) (hzs:z.cells.size=sz) (hpos:0<sz) (hby:bytes≤1024)
 (hgd:o.guard=none) (s x:Operand) (ho:o.op=.call { callee:=.builtin .append,args:=#[s,x],argTypes:=#[t,t] })
 (hs:a.eval s=v) (hown:w.ownsRow base e sz v n xs) (A:Option Addr) (m c:Nat) (hx:a.eval x=.slice A m c) (ys:List Value) (hl:ys.length=m*sz) (lo B:Nat) (hrd:Rd w lo B A ys) (hone:∀u∈ys,u.oneCell'=true) (hsz:n+m≤68719476736) (hb:base≤w.heap.size)
 (h:∀A' c' w',n+m≤c'→c'≤9223372036854775807→w'.ownsRow base e sz (.slice A' (n+m) c') (n+m) (xs++ys)→Below base w w'→w.grownBy w' v.ownBlock→((Value.slice A' (n+m) c').ownBlock=v.ownBlock∨(Value.slice A' (n+m) c').ownBlock=some w.heap.size)→wpList P ops Q rest (a.put o.dst (.slice A' (n+m) c')) w'):wpList P ops Q (o::rest) a w:=
 wpList_plain hgd fun _ hK=>by
  obtain⟨i0,aC,aD,aE,aF⟩:=info_parts hinf;have aB:(n+m)*bytes≤140737488355328:=by
   have:=Nat.mul_le_mul hsz hby;omega
  have aG:∃v' w',(Builtin.append_ #[t,t] o.type #[v,.slice A m c]).run P w=.ok v' w'∧w'.ownsRow base e sz v' (n+m) (xs++ys)∧w.grownBy w' v.ownBlock∧(v'.ownBlock=v.ownBlock∨v'.ownBlock=some w.heap.size):=by
   have aA:∀ad:Addr,(∀j u,ys[j]?=some u→w.cell? (ad.add j)=some u)→∃v' w',(Builtin.append_ #[t,t] o.type #[v,.slice (some ad) m c]).run P w=.ok v' w'∧w'.ownsRow base e sz v' (n+m) (xs++ys)∧w.grownBy w' v.ownBlock∧(v'.ownBlock=v.ownBlock∨v'.ownBlock=some w.heap.size):=by intro ad hc;obtain⟨v',w',h5,h6,h7,_,h8⟩:=run_append_own_at (P:=P) w base t o.type e i0 z sz bytes ht aC aD aE aF hzs hpos v n xs hown ad m c ys hl hc hone (by simp only[maxLen];omega) aB hb;exact ⟨v',w',h5,h6,h7,h8⟩
   rcases hrd with hy | ⟨g,of,rfl,_,_,hc⟩
   ·subst hy;have hm:m=0:=by
     have h0:m*sz=0:=by rw[←hl];rfl
     rcases Nat.mul_eq_zero.1 h0 with h | h
     ·exact h
     ·omega
    subst hm;cases A with
    | some ad=>exact aA ad (by simp)
    | none=>exact ⟨v,w,Ls w base _ o.type _ i0 sz ht aC v _ _ hown c,by simpa using hown,World.grownBy.refl w _,.inl rfl⟩
   ·exact aA ⟨g,of,none⟩ (fun j u hj=>by rw[Q3];exact hc j u hj)
  obtain⟨v',w',hr,h2,h3,h4⟩:=aG;unfold Oper.wp execOp;simp only[ho,resolve,invoke,builtin,Sem.run_bind,Sem.run_pure,Result.andThen_ok,List.map_toArray,List.map_cons,List.map_nil,hs,hx,hr];obtain⟨A',c',rfl,aH,aI⟩:=Be h2;exact hK _ _ (h A' c' w' aH aI h2 ((Below.refl _ _).grown h3 hb fun k hk=>(hown.lt k hk).1) h3 h4)
end
theorem Pj {P:Program} (w:World) (ρ:Operand→Value) (dst:Option Tmp) (ty:TypeId) (pos:String) (after:Array Edge) (guard:Option (Nat×Bool)) (t e n by_:Nat) (z:Value) (x:Operand)
 (ht:P.underlying t=some (.slice e)) (hi:(P.info? e).map (fun i=>(i.zero,i.size,i.bytes))=some (some z,n,by_)) (hz:z.cells.size=n) (hn:n≤16777216) (hp:n≠0) :
 (execOp ρ { dst,op:=.buildSlice t 1 #[(0,x)],type:=ty,pos,after,guard }).run P w=Fu n e w (F2 P ρ { dst,op:=.buildSlice t 1 #[(0,x)],type:=ty,pos,after,guard } w) (ρ x):=by
 generalize hv:ρ x=v;unfold Fu;split
 ·rename_i cs
  split
  ·rename_i hcs
   cases hq:P.info? e with
   | none=>simp[hq]at hi
   | some i=>
    simp only[hq,Option.map_some,Option.some.injEq,Prod.mk.injEq]at hi;obtain⟨h1,h2,_⟩:=hi;have hf:Instr.fill (fun i=>some (i*n,n)) ((Array.range (1*n)).map (fun j=>z.cells[j % z.cells.size]!)) [(0,Value.agg cs)]=some cs:=by
     have aA:((Array.range (1*n)).map (fun j=>z.cells[j % z.cells.size]!)).size=n:=by simp
     generalize (Array.range (1*n)).map (fun j=>z.cells[j % z.cells.size]!)=m at *;have h3:=Pw (fun i=>some (i*n,n)) [(0,Value.agg cs)] [(0,cs.toList)] m.toList ⟨by simp[hcs],rfl,by simp[hcs,aA],trivial⟩;rw[Array.toArray_toList]at h3;rw[h3];simp[Bg,N9,hcs,aA,List.drop_eq_nil_of_le]
    have aB:¬ (16777216<n):=by omega
    have hr:(Instr.buildSlice t 1 #[(0,Value.agg cs)]).run P w=.ok (.slice (some ⟨w.heap.size,0,none⟩) 1 1) (w.alloc (.cells cs e)):=by unfold Instr.buildSlice;simp only[Sem.run_bind,run_underlying ht,Result.andThen_ok,sizeOf,typeInfo,Sem.run_pure];simp only[Nat.one_mul]at hf;simp[hq,h2,aB,hp,zeroValue,typeInfo,h1,newRow];rw[hf];rfl
    simp only[execOp,List.map_toArray,List.map_cons,List.map_nil,hv,Sem.run_bind,hr,Result.andThen_ok,Sem.run_pure]
  ·rfl
 ·rfl
def Hs (w:World) (lo B:Nat) (v:Value) (l:List (List UInt8)):Prop:=(∀k∈l,k.length=32)∧∃A c,v=.slice A l.length c∧l.length≤c∧c≤maxLen∧Rd w lo B A (c8 l.flatten)
section
variable {w w' : World} {lo lo' B B' : Nat} {v : Value} {l : List (List UInt8)}
theorem Hs.below (h:Hs w lo B v l) (hb:Below B w w'):Hs w' lo B v l:=let ⟨h0,A,c,h1,h2,h3,h4⟩:=h;⟨h0,A,c,h1,h2,h3,h4.below hb⟩
theorem Hs.more (h:Hs w lo B v l) (hB:B≤B'):Hs w lo B' v l:=let ⟨h0,A,c,h1,h2,h3,h4⟩:=h;⟨h0,A,c,h1,h2,h3,h4.more hB⟩
theorem Hs.form (h:Hs w lo B v l):∃A c,v=.slice A l.length c∧l.length≤c∧c≤9223372036854775807:=by
 obtain⟨_,A,c,h1,h2,h3,_⟩:=h;exact ⟨A,c,h1,h2,by unfold maxLen at h3;exact h3⟩
theorem T6 {l:List (List UInt8)} (h:∀k∈l,k.length=32):l.flatten.length=l.length*32:=by
 induction l with
 | nil=>rfl
 | cons k l ih=>
  have h1:=ih fun q hq=>h q (by simp[hq]);have h2:=h k (by simp);simp only[List.flatten_cons,List.length_append,List.length_cons]at h1 ⊢;omega
theorem A9e {l:List (List UInt8)} (h:∀k∈l,k.length=32):∀ {i:Nat} {k:List UInt8},l[i]?=some k→(l.flatten.drop (i*32)).take 32=k:=by
 induction l with
 | nil=>intro i p hp;simp at hp
 | cons q l ih=>
  intro i p hp;have h2:=h q (by simp);cases i with
  | zero=>
   simp at hp;subst hp;simp only[List.flatten_cons,Nat.zero_mul,List.drop_zero];rw[←h2,List.take_left]
  | succ i=>
   have:=ih (fun q hq=>h q (by simp[hq])) (i:=i) (k:=p) (by simpa using hp);simp only[List.flatten_cons];rw[show (i+1)*32=q.length+i*32 by omega,←List.drop_drop,List.drop_left];exact this
theorem Hs.row (h:Hs w lo B v l):∃g o c,(∀i k,l[i]?=some k→D9 w ⟨g,o+i*32,none⟩ 32=some (c8 k))∧lo≤g∧g<B∧v=.slice (some ⟨g,o,none⟩) l.length c∧l.length≤c∧c≤9223372036854775807∨l=[]:=by
 obtain⟨h0,A,c,h1,h2,h3,h4⟩:=h;rcases Nat.eq_zero_or_pos l.length with h5 | h5
 ·exact ⟨0,0,0,.inr (List.eq_nil_of_length_eq_zero h5)⟩
 ·obtain⟨g,o,rfl,hl,hb,hc⟩:=h4.some (by rw[C6,T6 h0];omega);refine ⟨g,o,c,.inl ⟨fun i k hk=>?_,hl,hb,h1,h2,by unfold maxLen at h3;exact h3⟩⟩;have aB:=A9e h0 hk;have aA:=h0 k (List.mem_of_getElem? hk);refine Z0.2 ⟨by rw[C6,aA],fun j u hj=>?_⟩;have aC:j<32:=by have:=(List.getElem?_eq_some_iff.1 hj).1;rw[C6,aA]at this;exact this
  rw[Nat.add_assoc];refine hc _ _ ?_;rw[←hj,←aB];simp only[c8,List.getElem?_map,List.getElem?_take,List.getElem?_drop,if_pos aC]
end
@[go_sem] theorem A3k (n : Nat) (t : TypeId) (w : World) (raw : Result Next) (cs : Array Value) : Fu n t w raw (.agg cs) = if cs.size = n then .ok (.value (.slice (some ⟨w.heap.size, 0, none⟩) 1 1)) (w.alloc (.cells cs t)) else raw := rfl
theorem A3t:(Tryz.prog.info? 35).map (fun i=>(i.zero,i.size,i.bytes))=some (some (A8 (z8 32)),32,32):=by kernel_rfl
theorem D1q {e t n b:Nat} {z:Value} (ht:Tryz.prog.underlying t=some (.slice e)) (hi:(Tryz.prog.info? e).map (fun i=>(i.zero,i.size,i.bytes))=some (some z,n,b)) (hz:z.cells.size=n) (hn:n≤16777216) (hp:n≠0)
 (w:World) (ρ:Operand→Value) (dst:Option Tmp) (ty:TypeId) (pos:String) (after:Array Edge) (guard:Option (Nat×Bool)) (x:Operand) :
 (execOp ρ { dst,op:=.buildSlice t 1 #[(0,x)],type:=ty,pos,after,guard }).run Tryz.prog w=Fu n e w (F2 Tryz.prog ρ { dst,op:=.buildSlice t 1 #[(0,x)],type:=ty,pos,after,guard } w) (ρ x):=Pj w ρ dst ty pos after guard t e n b z x ht hi hz hn hp
@[go_sem ↓ high] theorem F3t (w : World) (ρ : Operand → Value) (dst : Option Tmp) (ty : TypeId) (pos : String) (after : Array Edge) (guard : Option (Nat × Bool)) (x : Operand) :
 (execOp ρ { dst,op:=.buildSlice 26 1 #[(0,x)],type:=ty,pos,after,guard }).run Tryz.prog w=Fu 32 35 w (F2 Tryz.prog ρ { dst,op:=.buildSlice 26 1 #[(0,x)],type:=ty,pos,after,guard } w) (ρ x):=
 D1q Tryz.underlying26 A3t (by simp[A8,Value.cells]) (by decide) (by decide) w ρ dst ty pos after guard x
end
theorem D8t (W:World) (c:Int) (b:UInt8) (hc:c=n8 b):By (W.alloc (.cells #[.int .u8 c] 5)) 0 (W.alloc (.cells #[.int .u8 c] 5)).heap.size (.slice (some ⟨W.heap.size,0,none⟩) 1 1) [b]:=by
 have:=By.build W 5 (0,0) [b] (by simp);subst hc;simpa [v8] using this
theorem D8c {a b c:List UInt8} {x y z:Nat} (h1:a.length=x) (h2:b.length=y) (h3:c.length=z) (hs:x+y+z≤1099511627776):[a,b,c].flatten.length≤1099511627776:=by simp[h1,h2,h3];omega
def Oo (ls:List (List UInt8)):List UInt8:=Ih ls.flatten
@[simp, go_sem] theorem Bu (ls : List (List UInt8)) : (Oo ls).length = 32 := Cd _
theorem B9h (v:Value) (ls:List (List UInt8)) (w:World) (hp:J9 w w.heap.size v ls) (hsz:ls.flatten.length≤1099511627776) :
 Calls Tryz.prog 104 #[v] w fun e w'=>e=.returned (A8 (Oo ls))∧Below w.heap.size w w':=Hf v ls w hp hsz
def T9 (ks:List (List UInt8)):Nat→List UInt8
 | 0=>z8 32
 | i+1=>Oo [[3],T9 ks i,gl ks i]
@[simp, go_sem] theorem Cc (ks : List (List UInt8)) : ∀ i, (T9 ks i).length = 32
 | 0=>by simp[T9]
 | i+1=>Bu _
def Ah (ks:List (List UInt8)):List UInt8:=Oo [[2],J3 (UInt64.ofNat ks.length),T9 ks ks.length]
theorem Dn (ks:List (List UInt8)):(Ah ks).length=32:=Bu _
theorem Rl (v:Value) (ks:List (List UInt8)) (w:World) (hv:Hs w 0 w.heap.size v ks) (hkn:ks.length≤1000000):Calls Tryz.prog 56 #[v] w fun e w'=>e=.returned (A8 (Ah ks))∧Below w.heap.size w w':=by
 obtain⟨A,c,rfl,eB,eJ⟩:=hv.form;have HV:=Lib.hid hv;have dG:=hv.1;obtain⟨n,hn⟩:∃n,n=ks.length:=⟨_,rfl⟩;have hw:IntKind.u64.wrap (n:Int)=C8 (UInt64.ofNat n):=by rw[Eb];unfold C8;simp
 have HN:=Lib.hid hn;rw[←hn]at eB hkn ⊢;have eC:=Lib.hid dG;clear hv dG hn;have HE:Hid (Ah ks=Oo [[2],J3 (UInt64.ofNat n),T9 ks n]):=Lib.hid (by rw[HN.out];rfl);obtain⟨W0,cM⟩:∃z,z=(w.alloc (Obj.cells (c8 (z8 32)).toArray 35)):=⟨_,rfl⟩;have hL:W0=Q6 w [(35,(c8 (z8 32)))]:=cM;have B0:Below w.heap.size w W0:=by rw[hL];exact H6 _ _
 have aU:Bk W0 (w.heap.size) 35 (c8 (z8 32)):=by rw[hL];exact E0 _ w 0 _ _ rfl
 have z0:w.heap.size+1≤W0.heap.size:=by rw[hL,O7];simp
 have dI:W0.heap.size=w.heap.size+1:=by rw[hL,O7];rfl
 clear hL;obtain⟨V1,bG⟩:∃z,z=W0.alloc (Obj.cells (c8 (z8 32)).toArray 35):=⟨_,rfl⟩;have cN:W0.heap.size=w.heap.size+1:=dI;have aM:Bk V1 (w.heap.size+1) 35 (c8 (z8 32)):=by rw[bG,←cN];exact Bk.new W0 _ _
 have aN:Bk V1 (w.heap.size) 35 (c8 (z8 32)):=by rw[bG];exact aU.alloc _
 have dJ:Below w.heap.size w V1:=by rw[bG];exact B0.alloc B0.size _
 have bL:w.heap.size<w.heap.size+1:=by rw[←cN];exact aU.lt
 have dK:w.heap.size+1≤w.heap.size+1:=by omega
 clear cN;go_enter Tryz.func56,Tryz.ntmps56;go_wp2_with fail;rw[←cM,←bG];have dL:w.heap.size+1≤V1.heap.size:=by have hz:=z0;rw[bG];first | (simp;omega) | (simp[World.setCell];omega)
 clear cM bG dI aU B0 z0;go_loopw [8] (fun x8 wr=>∃m:Nat,0≤m∧m≤n∧x8=.int .i64 (m:Int)∧Bk wr (w.heap.size) 35 (c8 (z8 32))∧Bk wr (w.heap.size+1) 35 (c8 (T9 ks m))∧Below w.heap.size w wr∧w.heap.size+1≤wr.heap.size) (fun x8 _=>n-(intOf x8).toNat)
 case atStart=>exact ⟨0,by omega,by omega,rfl,aN,aM,dJ,dL⟩
 case round=>
  clear dJ dL aN aM;obtain⟨m,bH,hm,rfl,aC,aA,bI,bM⟩:=hrel;by_cases hltm:m<n
  ·
   have hd:decide ((m:Int)<(n:Int))=true:=decide_eq_true (by omega);have eK:decide (m<n)=true:=decide_eq_true hltm;obtain⟨kk,aV⟩:∃k,k=gl ks m:=⟨_,rfl⟩;have bH:m<ks.length:=by rw[←HN.out];exact hltm
   have cO:ks[m]?=some kk:=by rw[aV];unfold gl;rw[List.getElem?_eq_getElem bH];simp[bH]
   have cK:kk.length=32:=eC.out kk (List.mem_of_getElem? cO);have HD:Hid (T9 ks (m+1)=Oo [[3],T9 ks m,kk]):=Lib.hid (by rw[aV];rfl);obtain⟨g,o,hA,hg,bN⟩:∃g o,A=some ⟨g,o,none⟩∧g<w.heap.size∧D9 w ⟨g,o+m*32,none⟩ 32=some (c8 kk):=by
    obtain⟨g,o,c',hh⟩:=HV.out.row;rcases hh with ⟨hr,_,hg,hA,_,_⟩ | h0
    ·injection hA with hA;exact ⟨g,o,hA,hg,hr m kk cO⟩
    ·rw[h0]at bH;simp at bH
   subst hA;have eD:=(Bv (a:=⟨g,o+m*32,none⟩) bI hg).trans bN;clear aV bH cO bN;obtain⟨V2,aO⟩:∃z,z=wr.alloc (Obj.cells (c8 (z8 32)).toArray 35):=⟨_,rfl⟩;have bO:wr.heap.size=wr.heap.size:=rfl;have aF:Bk V2 (wr.heap.size) 35 (c8 (z8 32)):=by rw[aO,←bO];exact Bk.new wr _ _
   have aP:Bk V2 (w.heap.size) 35 (c8 (z8 32)):=by rw[aO];exact aC.alloc _
   have aQ:Bk V2 (w.heap.size+1) 35 (c8 (T9 ks m)):=by rw[aO];exact aA.alloc _
   have dM:Below w.heap.size w V2:=by rw[aO];exact bI.alloc bI.size _
   have aG:w.heap.size<wr.heap.size:=by rw[←bO];exact aC.lt
   have aH:w.heap.size+1<wr.heap.size:=by rw[←bO];exact aA.lt
   have bP:w.heap.size+1≤wr.heap.size:=by rw[←bO];exact Nat.le_trans bM (Nat.le_refl _)
   clear bO;obtain⟨V3,aW⟩:∃z,z=C4 V2 ⟨wr.heap.size,0,none⟩ (c8 kk):=⟨_,rfl⟩;have aB:Bk V3 (wr.heap.size) 35 (c8 kk):=by rw[aW];exact Bk.put8 (aF) ((show (z8 32).length=32 from by simp)) (cK)
   have aI:Bk V3 (w.heap.size) 35 (c8 (z8 32)):=by rw[aW];exact aP.putFar (p:=⟨wr.heap.size,0,none⟩) (by show w.heap.size≠wr.heap.size;omega) _
   have aD:Bk V3 (w.heap.size+1) 35 (c8 (T9 ks m)):=by rw[aW];exact aQ.putFar (p:=⟨wr.heap.size,0,none⟩) (by show w.heap.size+1≠wr.heap.size;omega) _
   have cP:Below w.heap.size w V3:=by rw[aW];exact C0 dM (by show w.heap.size≤wr.heap.size;omega) _
   have cQ:=eD;have aR:E7 V2 ⟨wr.heap.size,0,none⟩ 32=true:=Bk.can8 (aF) ((show (z8 32).length=32 from by simp));rw[aO]at aR;have cR:kk.length=32:=cK;go_wp2_with fail;rw[←aO,←aW];clear cQ aR cR;obtain⟨p4,cS⟩:∃g,g=wr.heap.size:=⟨_,rfl⟩;rw[←cS]at aB aG aH bP;try rw[←cS]
   have dO:w.heap.size+1≤V3.heap.size:=by have hz:=bM;rw[aW,aO];first | (simp;omega) | (simp[World.setCell];omega)
   clear aO aW cS bM aP aQ aF dM;have S5:Below V3.heap.size V3 V3.drew:=(Below.refl _ _).drew;refine E3 (fun W=>True) (by kernel_rfl) ?_;refine C5 (A:=?eL) [1,2] (by kernel_rfl) (by kernel_rfl) rfl (by kernel_rfl) (by kernel_rfl) trivial (h:=fun W hW=>?eE) (hr:=?eM);case eE=>
    simp only[pick,List.getElem?_cons_zero,List.getElem?_cons_succ];repeat (go_big_quiet_step (fail))
    refine wpQuiet_nil ?_;rfl
   refine Bm [zb 0 12 [3],zs 3 15 3 [[3],(T9 ks m),kk],zv 4 16 (A8 (Oo [[3],(T9 ks m),kk]))] (by kernel_rfl) (fun W hW=>trivial) ?bQ ?bR ?bS;case bQ=>exact (List.forall_mem_cons.2 ⟨zb_mono _ _ _,(List.forall_mem_cons.2 ⟨zs_mono _ _ _ _,(List.forall_mem_cons.2 ⟨P8 _ _ _,(fun _ h=>by cases h)⟩)⟩)⟩)
   case bR=>
    refine (List.forall_mem_cons.2 ⟨?cT,(List.forall_mem_cons.2 ⟨?cU,(List.forall_mem_cons.2 ⟨?cV,(fun _ h=>by cases h)⟩)⟩)⟩);case cT=>
     intro o ho us W hW hp Q' hQ';obtain rfl:=Option.some.inj ho;clear hp ho;rw[C2]at hQ' ⊢;dsimp only[E5,E6,List.foldl,zv,za,zs,zp,zb]at hQ' ⊢;simp only[List.set_cons_succ,List.set_cons_zero];go_wp2_with fail;exact C9 (hQ' _ _ ((Below.refl _ _).alloc (Nat.le_refl _) _) (D8t W 3 _ rfl) (fun h=>by cases h)) (by kernel_rfl)
    case cU=>intro o ho us W hW hp Q' hQ';obtain rfl:=Option.some.inj ho;have aJ:By W 0 W.heap.size (us 0) [3]:=hp 0 _ rfl (by kernel_rfl);obtain⟨A0,n0,c0,aX⟩:=aJ.formE;rw[aX]at aJ;have aJ:=Lib.hid aJ;clear hp ho;rw[C2]at hQ' ⊢;dsimp only[E5,E6,List.foldl,zv,za,zs,zp,zb]at hQ' ⊢;simp only[List.set_cons_succ,List.set_cons_zero];rw[aX]at hQ' ⊢;clear aX;have aK:=aD.drew.below hW aD.drew.lt;have bT:=aB.drew.below hW aB.drew.lt;go_wp2_with fail;exact C9 (hQ' _ _ ((Below.refl _ _).alloc (Nat.le_refl _) _) ⟨_,rfl,(J9.three W _ _ _ _ [3] (T9 ks m) kk aJ.out (Bk.byAll (aK) (Cc ks m) (by decide)) (Bk.byAll (bT) cK (by decide))).more (by simp)⟩ (fun h=>by cases h)) (by kernel_rfl)
    case cV=>
     intro o ho us W hW hp Q' hQ';obtain rfl:=Option.some.inj ho;obtain⟨dQ,bU,bW⟩:=hp 1 _ rfl (by kernel_rfl);have bU:us 3=.slice (some ⟨dQ,0,none⟩) 3 3:=bU;have bW:J9 W W.heap.size (.slice (some ⟨dQ,0,none⟩) 3 3) [[3],(T9 ks m),kk]:=by rw[←bU];exact bW
     have bW:=Lib.hid bW;clear hp ho;rw[C2]at hQ' ⊢;dsimp only[E5,E6,List.foldl,zv,za,zs,zp,zb]at hQ' ⊢;simp only[List.set_cons_succ,List.set_cons_zero];rw[bU]at hQ' ⊢;clear bU;go_wp2_with fail;refine (B9h _ [[3],(T9 ks m),kk] W bW.out (D8c rfl (Cc ks m) cK (by decide))).mono ?_;rintro e W2 ⟨rfl,b2⟩;go_wp2_with fail;exact C9 (hQ' _ _ b2 rfl (fun h=>by cases h)) (by kernel_rfl)
   case bS=>
   intro us W6 b7 hg aY cW;have bX:By W6 0 W6.heap.size (us 0) [3]:=hg _ (List.mem_of_getElem? (i:=0) rfl);have bX:=Lib.hid bX;have bJ:us 4=(A8 (Oo [[3],(T9 ks m),kk])):=hg _ (List.mem_of_getElem? (i:=2) rfl);have b8:=C1 S5 b7 S5.size;rw[C2];dsimp only[E6,List.foldl,zv,za,zs,zp,zb];simp only[List.set_cons_succ,List.set_cons_zero];rw[bJ];clear hg aY cW bJ b7 S5;have B6:=C1 cP b8 cP.size;have z6:=Nat.le_trans dO b8.size;have bY:=aI.below b8 aI.lt;have aZ:=aD.below b8 aD.lt;have bZ:=aB.below b8 aB.lt;clear b8 cP dO aI aD aB;obtain⟨W9,bA⟩:∃z,z=C4 W6 ⟨w.heap.size+1,0,none⟩ (c8 (Oo [[3],(T9 ks m),kk])):=⟨_,rfl⟩;have cX:Bk W9 (w.heap.size+1) 35 (c8 (Oo [[3],(T9 ks m),kk])):=by rw[bA];exact Bk.put8 (aZ) ((Cc ks m)) ((Bu [[3],(T9 ks m),kk]))
   have cY:Bk W9 (w.heap.size) 35 (c8 (z8 32)):=by rw[bA];exact bY.putFar (p:=⟨w.heap.size+1,0,none⟩) (by show w.heap.size≠w.heap.size+1;omega) _
   have eF:Bk W9 (p4) 35 (c8 kk):=by rw[bA];exact bZ.putFar (p:=⟨w.heap.size+1,0,none⟩) (by show p4≠w.heap.size+1;omega) _
   have B9:Below w.heap.size w W9:=by rw[bA];exact C0 B6 (by show w.heap.size≤w.heap.size+1;omega) _
   have cA:E7 W6 ⟨w.heap.size+1,0,none⟩ 32=true:=Bk.can8 (aZ) ((Cc ks m));have cB:(Oo [[3],(T9 ks m),kk]).length=32:=(Bu [[3],(T9 ks m),kk]);refine C3 5 (by kernel_rfl) (by rfl) (by rfl) (fun Q' hQ'=>?_);dsimp only[E5];go_wp2_with fail;rw[←bA];refine hQ' _ _ trivial ?_;clear hQ' cA cB;have z9:w.heap.size+1≤W9.heap.size:=by have hz:=z6;rw[bA];simp;omega
   clear bA B6 z6 bY aZ bZ;refine F0 (by kernel_rfl) ?_;go_wp2_with fail;go_roundw;case rel=>exact ⟨m+1,by omega,by omega,by go_num,cY,(by rw[HD.out];exact cX),B9,z9⟩
   case measure=>simp[intOf];omega
  ·
   obtain rfl:n=m:=by omega
   go_wp2_with fail;have cZ:Below wr.heap.size wr wr.drew:=(Below.refl _ _).drew;refine E3 (fun W=>True) (by kernel_rfl) ?_;refine C5 (A:=?eG) [1,2,3,5] (by kernel_rfl) (by kernel_rfl) rfl (by kernel_rfl) (by kernel_rfl) trivial (h:=fun W hW=>?dC) (hr:=?eH);case dC=>
    simp only[pick,List.getElem?_cons_zero,List.getElem?_cons_succ];repeat (go_big_quiet_step (fail))
    refine wpQuiet_nil ?_;rfl
   refine Bm [zb 0 18 [2],zb 4 22 (J3 (UInt64.ofNat n)),zs 6 24 3 [[2],(J3 (UInt64.ofNat n)),(T9 ks n)],zv 7 25 (A8 (Oo [[2],(J3 (UInt64.ofNat n)),(T9 ks n)]))] (by kernel_rfl) (fun W hW=>trivial) ?bB ?bC ?bD;case bB=>exact (List.forall_mem_cons.2 ⟨zb_mono _ _ _,(List.forall_mem_cons.2 ⟨zb_mono _ _ _,(List.forall_mem_cons.2 ⟨zs_mono _ _ _ _,(List.forall_mem_cons.2 ⟨P8 _ _ _,(fun _ h=>by cases h)⟩)⟩)⟩)⟩)
   case bC=>
    refine (List.forall_mem_cons.2 ⟨?cC,(List.forall_mem_cons.2 ⟨?cD,(List.forall_mem_cons.2 ⟨?cE,(List.forall_mem_cons.2 ⟨?cF,(fun _ h=>by cases h)⟩)⟩)⟩)⟩);case cC=>
     intro o ho us W hW hp Q' hQ';obtain rfl:=Option.some.inj ho;clear hp ho;rw[C2]at hQ' ⊢;dsimp only[E5,E6,List.foldl,zv,za,zs,zp,zb]at hQ' ⊢;simp only[List.set_cons_succ,List.set_cons_zero];go_wp2_with fail;exact C9 (hQ' _ _ ((Below.refl _ _).alloc (Nat.le_refl _) _) (D8t W 2 _ rfl) (fun h=>by cases h)) (by kernel_rfl)
    case cD=>intro o ho us W hW hp Q' hQ';obtain rfl:=Option.some.inj ho;clear hp ho;rw[C2]at hQ' ⊢;dsimp only[E5,E6,List.foldl,zv,za,zs,zp,zb]at hQ' ⊢;simp only[List.set_cons_succ,List.set_cons_zero];go_wp2_with fail;refine (Nq (.slice none 0 0) [] (UInt64.ofNat n) W (.inl ⟨rfl,rfl⟩) (by simp)).mono ?_;rintro e W2 ⟨v2,rfl,dD,b2⟩;have dD:=Lib.hid dD;go_wp2_with fail;exact C9 (hQ' _ _ b2 dD.out.up (fun h=>by cases h)) (by kernel_rfl)
    case cE=>intro o ho us W hW hp Q' hQ';obtain rfl:=Option.some.inj ho;have aJ:By W 0 W.heap.size (us 0) [2]:=hp 0 _ rfl (by kernel_rfl);obtain⟨A0,n0,c0,aX⟩:=aJ.formE;rw[aX]at aJ;have aJ:=Lib.hid aJ;have aS:By W 0 W.heap.size (us 4) (J3 (UInt64.ofNat n)):=hp 1 _ rfl (by kernel_rfl);obtain⟨A4,n4,c4,bJ⟩:=aS.formE;rw[bJ]at aS;have aS:=Lib.hid aS;clear hp ho;rw[C2]at hQ' ⊢;dsimp only[E5,E6,List.foldl,zv,za,zs,zp,zb]at hQ' ⊢;simp only[List.set_cons_succ,List.set_cons_zero];rw[aX,bJ]at hQ' ⊢;clear aX bJ;have aK:=aA.drew.below hW aA.drew.lt;go_wp2_with fail;exact C9 (hQ' _ _ ((Below.refl _ _).alloc (Nat.le_refl _) _) ⟨_,rfl,(J9.three W _ _ _ _ [2] (J3 (UInt64.ofNat n)) (T9 ks n) aJ.out aS.out (Bk.byAll (aK) (Cc ks n) (by decide))).more (by simp)⟩ (fun h=>by cases h)) (by kernel_rfl)
    case cF=>
     intro o ho us W hW hp Q' hQ';obtain rfl:=Option.some.inj ho;have aS:By W 0 W.heap.size (us 4) (J3 (UInt64.ofNat n)):=hp 1 _ rfl (by kernel_rfl);have aS:=Lib.hid aS;obtain⟨dS,cG,cH⟩:=hp 2 _ rfl (by kernel_rfl);have cG:us 6=.slice (some ⟨dS,0,none⟩) 3 3:=cG;have cH:J9 W W.heap.size (.slice (some ⟨dS,0,none⟩) 3 3) [[2],(J3 (UInt64.ofNat n)),(T9 ks n)]:=by rw[←cG];exact cH
     have cH:=Lib.hid cH;clear hp ho;rw[C2]at hQ' ⊢;dsimp only[E5,E6,List.foldl,zv,za,zs,zp,zb]at hQ' ⊢;simp only[List.set_cons_succ,List.set_cons_zero];rw[cG]at hQ' ⊢;clear cG;go_wp2_with fail;refine (B9h _ [[2],(J3 (UInt64.ofNat n)),(T9 ks n)] W cH.out (D8c rfl (Ic (UInt64.ofNat n)) (Cc ks n) (by decide))).mono ?_;rintro e W2 ⟨rfl,b2⟩;go_wp2_with fail;exact C9 (hQ' _ _ b2 rfl (fun h=>by cases h)) (by kernel_rfl)
   case bD=>
   intro us bK dT hg aY cW;have bX:By bK 0 bK.heap.size (us 0) [2]:=hg _ (List.mem_of_getElem? (i:=0) rfl);have bX:=Lib.hid bX;have dU:By bK 0 bK.heap.size (us 4) (J3 (UInt64.ofNat n)):=hg _ (List.mem_of_getElem? (i:=1) rfl);have dU:=Lib.hid dU;have dW:us 7=(A8 (Oo [[2],(J3 (UInt64.ofNat n)),(T9 ks n)])):=hg _ (List.mem_of_getElem? (i:=3) rfl);have cI:=C1 cZ dT cZ.size;rw[C2];dsimp only[E6,List.foldl,zv,za,zs,zp,zb];simp only[List.set_cons_succ,List.set_cons_zero];rw[dW];clear hg aY cW dW dT cZ;have dX:=C1 bI cI bI.size;have dY:=Nat.le_trans bM cI.size;have aL:=aC.below cI aC.lt;have aT:=aA.below cI aA.lt;clear cI bI bM aC aA;obtain⟨cL,aE⟩:∃z,z=C4 bK ⟨w.heap.size,0,none⟩ (c8 (Oo [[2],(J3 (UInt64.ofNat n)),(T9 ks n)])):=⟨_,rfl⟩;have cJ:Bk cL (w.heap.size) 35 (c8 (Oo [[2],(J3 (UInt64.ofNat n)),(T9 ks n)])):=by rw[aE];exact Bk.put8 (aL) ((show (z8 32).length=32 from by simp)) ((Bu [[2],(J3 (UInt64.ofNat n)),(T9 ks n)]))
   have dZ:Bk cL (w.heap.size+1) 35 (c8 (T9 ks n)):=by rw[aE];exact aT.putFar (p:=⟨w.heap.size,0,none⟩) (by show w.heap.size+1≠w.heap.size;omega) _
   have eI:Below w.heap.size w cL:=by rw[aE];exact C0 dX (by show w.heap.size≤w.heap.size;omega) _
   have bE:E7 bK ⟨w.heap.size,0,none⟩ 32=true:=Bk.can8 (aL) ((show (z8 32).length=32 from by simp));have bF:(Oo [[2],(J3 (UInt64.ofNat n)),(T9 ks n)]).length=32:=(Bu [[2],(J3 (UInt64.ofNat n)),(T9 ks n)]);refine C3 8 (by kernel_rfl) (by rfl) (by rfl) (fun Q' hQ'=>?_);dsimp only[E5];go_wp2_with fail;rw[←aE];refine hQ' _ _ trivial ?_;clear hQ' bE bF;have eN:w.heap.size+1≤cL.heap.size:=by have hz:=dY;rw[aE];simp;omega
   clear aE dX dY aL aT;refine F0 (by kernel_rfl) ?_;go_wp2_with fail;have dF:(Oo [[2],(J3 (UInt64.ofNat n)),(T9 ks n)]).length=32:=(Bu [[2],(J3 (UInt64.ofNat n)),(T9 ks n)]);refine bodyPost_ret (C7 rfl _ _ _ _ _ _ rfl cJ Tryz.underlying35 rfl (by simp[I8,dF])) rfl ⟨by rw[HE.out];rfl,eI⟩
theorem Hs.at_ {w:World} {B:Nat} {A:Option Addr} {n c:Nat} {ks:List (List UInt8)} (h:Hs w 0 B (.slice A n c) ks) {m:Nat} {k:List UInt8} (hk:ks[m]?=some k):∃g o,A=some ⟨g,o,none⟩∧g<B∧D9 w ⟨g,o+m*32,none⟩ 32=some (c8 k):=by
 obtain⟨g,o,c',hh⟩:=h.row;rcases hh with ⟨hr,_,hg,hA,_,_⟩ | h0
 ·injection hA with hA;exact ⟨g,o,hA,hg,hr m k hk⟩
 ·rw[h0]at hk;simp at hk
end Go.Proofs.YtdfpoofbgjilgaaGreat
