/- A part of the proof of DirPlays. -/
import Derived.Test.YtlegpkdighoflaaGreatRbh
set_option linter.unusedVariables false
set_option linter.unusedSimpArgs false
set_option maxRecDepth 100000
set_option maxHeartbeats 40000000
namespace Go.Proofs.YtlegpkdighoflaaGreat
open Go Go.RowKit Sh
section
variable {P : Program} {ops : Array Oper} {rest : List Oper} {o : Oper} {a : Act} {Q : Exit → Act → World → Prop} {w : World} {base n : Nat} {v : Value} {xs : List Value}
theorem Cn (t e:TypeId) (z:Value) (sz bytes:Nat) (ht:P.underlying t=some (.slice e)) (hinf:(P.info? e).map (fun i=>(i.zero,i.size,i.bytes))=some (some z,sz,bytes)) (hzs:z.cells.size=sz) (hpos:0<sz) (hby:bytes≤1024)
 (hgd:o.guard=none) (s x:Operand) (ho:o.op=.call { callee:=.builtin .append,args:=#[s,x],argTypes:=#[t,t] })
 (hs:a.eval s=v) (hown:w.ownsRow base e sz v n xs) (ys:List Value) (hl:ys.length=sz) (hone:∀u∈ys,u.oneCell'=true) (cs:Array Value) (hcs:cs=ys.toArray) {N:Nat} (hx:a.eval x=.slice (some ⟨N,0,none⟩) 1 1) (hN:w.heap.size=N) (hsz:n+1≤68719476736) (hb:base≤w.heap.size)
 (h:∀A c w',n+1≤c→c≤9223372036854775807→w'.ownsRow base e sz (.slice A (n+1) c) (n+1) (xs++ys)→Below base w w'→w.grownBy w' v.ownBlock→((Value.slice A (n+1) c).ownBlock=v.ownBlock∨(Value.slice A (n+1) c).ownBlock=some (w.heap.size+1))→wpList P ops Q rest (a.put o.dst (.slice A (n+1) c)) w'):wpList P ops Q (o::rest) a (w.alloc (.cells cs e)):=by
 subst hcs hN;have hB:=Bk.new w e ys;have aA:w.grownBy (w.alloc (.cells ys.toArray e)) v.ownBlock:=⟨rfl,rfl,rfl,by simp,fun k hk _=>Below.heap_alloc _ _ _ hk⟩;refine B6v t z bytes ht hinf hzs hpos hby hgd s x ho hs (World.ownsRow.alloc hown (.cells ys.toArray e)) (some ⟨w.heap.size,0,none⟩) 1 1 hx ys (by rw[hl,Nat.one_mul]) 0 (w.alloc (.cells ys.toArray e)).heap.size
  (.inr ⟨w.heap.size,0,rfl,Nat.zero_le _,by simp,fun j u hj=>by rw[Nat.zero_add];exact hB.at_ hj⟩) hone hsz (by simp;omega) ?_
 intro A' c' w' h1 h2 h3 h4 h5 h6;refine h A' c' w' h1 h2 h3 (((Below.refl _ _).alloc hb _).trans h4) (aA.trans h5) ?_;rcases h6 with h6 | h6
 ·exact .inl h6
 ·exact .inr (by simpa using h6)
theorem T9 {T T':TypeId} {base' n' sz sz':Nat} {v':Value} {xs':List Value} (h:w.ownsRow base T sz v n xs) (h':w.ownsRow base' T' sz' v' n' xs') (hT:T≠T'):v.ownBlock=none∨v.ownBlock≠v'.ownBlock:=by
 rcases h.2 with ⟨hv,_⟩ | ⟨g,cap,cur,hv,hg,hh,_⟩
 ·left;simp[hv,Value.ownBlock]
 ·rcases h'.2 with ⟨hv',_⟩ | ⟨g',cap',cur',hv',hg',hh',_⟩
  ·right;simp[hv,hv',Value.ownBlock]
  ·right
   intro e;rw[hv,hv']at e;simp only[Value.ownBlock,Option.some.injEq]at e;subst e;rw[hh]at hh';injection hh' with hh';injection hh' with _ h2;exact hT h2
end
theorem Nz {w:World} {base b o:Nat} {T:TypeId} {k n:Nat} {v:Value} {cs:List Value} (h:w.ownsRow base T k v n cs) (hb:b<base) (vs:List Value):(C4 w ⟨b,o,none⟩ vs).ownsRow base T k v n cs:=by
 refine World.ownsRow.kept h (Bj w b o vs) ?_;rcases h.2 with h2 | ⟨g,cap,cur,hv,hg,r⟩
 ·left
  simp[h2,Value.ownBlock]
 ·right
  rw[hv];simp[Value.ownBlock];omega
def Pf (w:World) (lo base:Nat) (r:Rw) (q:En):Prop:=r.id=q.1∧q.1.length=32∧0<q.2.length∧(HsT w lo r.s.v q.2∨Ee w base r.s.v q.2)
def Fu (w:World) (lo base:Nat):List Rw→List En→Prop
 | [],[]=>True
 | r::R,q::L=>Pf w lo base r q∧Fu w lo base R L
 | _,_=>False
section
variable {w w' : World} {lo base : Nat} {v : Value} {R : List Rw} {L : List En} {r : Rw} {q : En}
theorem Pf.rw_ (h:Pf w lo base r q) (hb:lo≤w.heap.size):A6g w w.heap.size r q:=by
 refine ⟨h.1,h.2.1,h.2.2.1,?_⟩;rcases h.2.2.2 with h | h
 ·exact h.more hb
 ·exact ⟨(Ee.hs h).less (Nat.zero_le _),C2h h.2⟩
theorem Pf.below (h:Pf w lo base r q) (hb:Below w.heap.size w w') (hB:lo≤w.heap.size):Pf w' lo base r q:=by
 refine ⟨h.1,h.2.1,h.2.2.1,?_⟩;rcases h.2.2.2 with h | h
 ·exact .inl (h.below (hb.mono hB))
 ·exact .inr (h.below hb (Nat.le_refl _))
theorem Pf.own {T:TypeId} {sz n:Nat} {v:Value} {xs:List Value} (h:Pf w lo base r q) (hB:Below base w w') (hlo:lo≤base) (ho:w.ownsRow base T sz v n xs) (hT:23≠T) (hg:w.grownBy w' v.ownBlock):Pf w' lo base r q:=by
 refine ⟨h.1,h.2.1,h.2.2.1,?_⟩;rcases h.2.2.2 with h | h
 ·exact .inl (h.below (hB.mono hlo))
 ·exact .inr ⟨h.1,World.ownsRow.kept h.2 hg (T9 h.2 ho hT)⟩
theorem Fu.map {f:∀ {r:Rw} {q:En},Pf w lo base r q→Pf w' lo base r q}:∀ {R:List Rw} {L:List En},Fu w lo base R L→Fu w' lo base R L
 | [],[],_=>trivial
 | _::_,_::_,h=>⟨f h.1,Fu.map (f:=f) h.2⟩
 | [],_::_,h=>h.elim
 | _::_,[],h=>h.elim
theorem Fu.rws (hb:lo≤w.heap.size):∀ {R:List Rw} {L:List En},Fu w lo base R L→Cv w w.heap.size R L
 | [],[],_=>trivial
 | _::_,_::_,h=>⟨h.1.rw_ hb,Fu.rws hb h.2⟩
 | [],_::_,h=>h.elim
 | _::_,[],h=>h.elim
theorem Fu.snoc:∀ {R:List Rw} {L:List En},Fu w lo base R L→Pf w lo base r q→Fu w lo base (R++[r]) (L++[q])
 | [],[],_,h=>⟨h,trivial⟩
 | _::_,_::_,h,h'=>⟨h.1,Fu.snoc h.2 h'⟩
 | [],_::_,h,_=>h.elim
 | _::_,[],h,_=>h.elim
def OwnE (w:World) (lo base:Nat) (v:Value) (L:List En):Prop:=lo≤base∧base≤w.heap.size∧∃R,Fu w lo base R L∧w.ownsRow base 44 33 v L.length (R.flatMap Rw.cells)
theorem OwnE.nil (w:World) (lo base:Nat) (hl:lo≤base) (hb:base≤w.heap.size):OwnE w lo base (.slice none 0 0) []:=⟨hl,hb,[],trivial,World.ownsRow_nil w base _ _⟩
theorem OwnE.below (h:OwnE w lo base v L) (hb:Below w.heap.size w w'):OwnE w' lo base v L:=by
 obtain⟨hl,h0,R,h1,h2⟩:=h;exact ⟨hl,Nat.le_trans h0 hb.size,R,Fu.map (f:=fun h=>h.below hb (Nat.le_trans hl h0)) h1,Aw h2 hb (Nat.le_refl _)⟩
theorem OwnE.es (h:OwnE w lo base v L):Es w w.heap.size v L:=by
 obtain⟨aA,h0,R,h1,h2⟩:=h;have hr:=h1.rws (Nat.le_trans aA h0);have hl:=hr.len;refine ⟨R,hr,?_⟩;rcases h2.2 with ⟨rfl,hn⟩ | ⟨g,cap,cur,rfl,hbg,hh,hr',hm,hsz,ht⟩
 ·rw[hn];have:R=[]:=List.eq_nil_of_length_eq_zero (by omega);subst this;exact ⟨none,0,rfl,Nat.le_refl _,by simp[maxLen],.inl rfl,fun g h=>by cases h⟩
 ·refine ⟨_,cap,rfl,hr',hm,.inr ⟨g,0,rfl,Nat.zero_le _,(Array.getElem?_eq_some_iff.1 hh).1,fun j u hu=>?_⟩,C2h h2⟩;have:=h2.cells (g:=g) rfl j u hu;rwa [U9]at this
theorem OwnE.lt (h:OwnE w lo base v L) {k:Nat} (hk:v.ownBlock=some k):base≤k∧k<w.heap.size:=by
 obtain⟨_,_,R,_,h2⟩:=h;exact h2.lt k hk
theorem OwnE.put (h:OwnE w lo base v L) {g o:Nat} (h1:lo≤g) (h2:g<base) (vs:List Value):OwnE (C4 w ⟨g,o,none⟩ vs) lo base v L:=by
 obtain⟨hl,h0,R,h3,h4⟩:=h;refine ⟨hl,by simpa using h0,R,Fu.map (f:=fun {r q} h=>⟨h.1,h.2.1,h.2.2.1,?_⟩) h3,Nz h4 h2 vs⟩;rcases h.2.2.2 with ⟨⟨e0,A,c,e1,e2,e3,e4⟩,ht⟩ | h
 ·exact .inl ⟨⟨e0,A,c,e1,e2,e3,e4.keep fun p _ hp=>Cf (by omega)⟩,ht.putAt g vs o⟩
 ·exact .inr ⟨h.1,Nz h.2 h2 vs⟩
variable {ops : Array Oper} {rest : List Oper} {o : Oper} {a : Act} {Q : Exit → Act → World → Prop}
theorem C7d (hgd:o.guard=none) (s x:Operand) (ho:o.op=.call { callee:=.builtin .append,args:=#[s,x],argTypes:=#[35,35] })
 (hs:a.eval s=v) (hown:OwnE w lo base v L) (r:Rw) (q:En) (hp:Pf w lo base r q) (cs:Array Value) (hcs:cs=r.cells.toArray) {N:Nat} (hx:a.eval x=.slice (some ⟨N,0,none⟩) 1 1) (hN:w.heap.size=N) (hsz:L.length≤1000000000)
 (h:∀A c w',L.length+1≤c→c≤9223372036854775807→OwnE w' lo base (.slice A (L.length+1) c) (L++[q])→Below base w w'→w.grownBy w' v.ownBlock→((Value.slice A (L.length+1) c).ownBlock=v.ownBlock∨(Value.slice A (L.length+1) c).ownBlock=some (w.heap.size+1))→wpList Tryz.prog ops Q rest (a.put o.dst (.slice A (L.length+1) c)) w'):wpList Tryz.prog ops Q (o::rest) a (w.alloc (.cells cs 44)):=by
 obtain⟨aA,h0,R,h1,h2⟩:=hown;refine Cn 35 44 rwz.V 33 56 Tryz.underlying35 E0o (by simp[Rw.V,rwz,Rw.cells,Value.cells]) (by decide) (by decide) hgd s x ho hs h2 r.cells (Rw.len (by rw[hp.1];exact hp.2.1)) r.one cs hcs hx hN (by omega) h0 ?_;intro A c w' g1 g2 g3 g4 g5 g6;refine h A c w' g1 g2 ⟨aA,Nat.le_trans h0 g5.size,R++[r],(Fu.map (f:=fun h=>h.own g4 aA h2 (by decide) g5) h1).snoc (hp.own g4 aA h2 (by decide) g5),?_⟩ g4 g5 g6;rw[List.length_append,List.flatMap_append];simpa using g3
theorem OwnE.set (h:OwnE w lo base v L) {g i:Nat} (h1:lo≤g) (h2:g<base) (u:Value):OwnE (w.setCell ⟨g,i,none⟩ u) lo base v L:=h.put h1 h2 [u]
end
noncomputable def Fy (id key:List UInt8) (s:List En×Bool) (q:En):List En×Bool:=
 if q.1=id then ((if !s.2&&Ct id q.1 then s.1++[(id,[key])] else s.1)++[(q.1,q.2++[key])],true)
 else ((if !s.2&&Ct id q.1 then s.1++[(id,[key])] else s.1)++[q],s.2||Ct id q.1)
noncomputable def Ht (id key:List UInt8) (L:List En):List En×Bool:=L.foldl (Fy id key) ([],false)
noncomputable def B6w (id key:List UInt8) (s:List En×Bool):List En:=if s.2 then s.1 else s.1++[(id,[key])]
theorem Lh {a:List UInt8}:Ct a a=false:=by
 cases h:Ct a a with
 | false=>rfl
 | true=>exact absurd rfl (P8.1 h).ne
theorem Ma {a b:List UInt8} (h:Ct a b=true):Ct b a=false:=by
 cases h2:Ct b a with
 | false=>rfl
 | true=>exact absurd (P8.1 h2) (P8.1 h).asymm
theorem Wl {id key:List UInt8}:∀ {L:List En} {acc:List En},(∀q∈L,q.1≠id)→L.foldl (Fy id key) (acc,true)=(acc++L,true)
 | [],acc,_=>by simp
 | q::L,acc,h=>by
  have h1:Fy id key (acc,true) q=(acc++[q],true):=by unfold Fy;rw[if_neg (h q (by simp))];rfl
  rw[List.foldl_cons,h1,Wl fun x hx=>h x (by simp[hx])];simp
theorem A7b {id key:List UInt8} (hid:id.length=32):∀ {L:List En} {acc:List En},(∀q∈L,q.1.length=32)→L.Pairwise (fun x y=>klt x.1 y.1)→
 B6w id key (L.foldl (Fy id key) (acc,false))=acc++Ck id key L
 | [],acc,_,_=>by simp[B6w,Ck,lookE]
 | q::L,acc,hl,hp=>by
  rw[List.pairwise_cons]at hp;rw[List.foldl_cons];by_cases he:q.1=id
  ·have h1:Fy id key (acc,false) q=(acc++[(q.1,q.2++[key])],true):=by unfold Fy;rw[if_pos he,he,Lh];rfl
   have aB:∀x∈L,Ct id x.1=true:=fun x hx=>P8.2 (he▸hp.1 x hx);have f1:(q::L).filter (fun q=>Ct q.1 id)=[]:=by
    rw[List.filter_eq_nil_iff];intro x hx;rcases List.mem_cons.1 hx with rfl | hx
    ·rw[he,Lh];decide
    ·rw[Ma (aB x hx)];decide
   have f2:(q::L).filter (fun q=>Ct id q.1)=L:=by rw[List.filter_cons,he,Lh];exact List.filter_eq_self.2 fun x hx=>aB x hx
   have f3:lookE (q::L) id=q.2:=by unfold lookE;rw[if_pos he]
   rw[h1,Wl fun x hx e=>(hp.1 x hx).ne (he.trans e.symm)];unfold B6w Ck;rw[f1,f2,f3,he];simp
  ·rcases klt.total (hl q (by simp)) hid he with hlt | aB
   ·have hk:=P8.2 hlt;have h1:Fy id key (acc,false) q=(acc++[q],false):=by unfold Fy;rw[if_neg he,Ma hk];rfl
    rw[h1,A7b hid (fun x hx=>hl x (by simp[hx])) hp.2];unfold Ck;have f3:lookE (q::L) id=lookE L id:=by
     show (if q.1=id then q.2 else lookE L id)=_;rw[if_neg he]
    rw[List.filter_cons,hk,List.filter_cons,Ma hk,f3];simp
   ·have hk:=P8.2 aB;have aA:∀x∈q::L,Ct id x.1=true:=fun x hx=>by
     rcases List.mem_cons.1 hx with rfl | hx
     ·exact hk
     ·exact P8.2 (aB.trans (hp.1 x hx))
    have h1:Fy id key (acc,false) q=(acc++[(id,[key])]++[q],true):=by unfold Fy;rw[if_neg he,hk];rfl
    have f1:(q::L).filter (fun q=>Ct q.1 id)=[]:=by rw[List.filter_eq_nil_iff];intro x hx;rw[Ma (aA x hx)];decide
    have f2:=List.filter_eq_self.2 aA;have f3:=Ly fun x hx e=>by
     have:=aA x hx;rw[e,Lh]at this;cases this
    rw[h1,Wl fun x hx e=>by have:=aA x (by simp[hx]);rw[e,Lh]at this;cases this];unfold B6w Ck;rw[f1,f2,f3];simp
theorem C4g {id key:List UInt8} {L:List En} (hid:id.length=32) (ok:OkE L):B6w id key (Ht id key L)=Ck id key L:=by
 unfold Ht;rw[A7b hid ok.id ok.rise];rfl
theorem B7u {id key:List UInt8} {L:List En} {i:Nat} {q:En} (hq:L[i]?=some q):Ht id key (L.take (i+1))=Fy id key (Ht id key (L.take i)) q:=by
 have e1:L.take (i+1)=L.take i++[q]:=by rw[List.take_add_one,hq];rfl
 unfold Ht;rw[e1,List.foldl_append];rfl
theorem C6a {id key:List UInt8} {s:List En×Bool} {q:En}:(Fy id key s q).1.length≤s.1.length+2:=by
 unfold Fy;split<;>simp<;>split<;>simp<;>omega
section
theorem Tq:Tryz.prog.underlying 37=some (.struct (S4 Tryz.prog 37)):=by kernel_rfl
theorem Yi:(Tryz.prog.info? 37).map (·.size)=some 2:=by kernel_rfl
theorem Xi:RL' 37 2:=LL' Tq Yi
theorem Xk:RS' 37 2:=SS' Yi
theorem C5w {id key:List UInt8} {s:List En×Bool} {q:En} (h:(Fy id key s q).2=true):s.2=true∨q.1=id∨Ct id q.1=true:=by
 unfold Fy at h;split at h
 ·exact .inr (.inl ‹_›)
 ·rcases Bool.or_eq_true_iff.1 h with h | h
  ·exact .inl h
  ·exact .inr (.inr h)
theorem B4h {id key:List UInt8}:∀ {l:List En} {s:List En×Bool},(l.foldl (Fy id key) s).2=true→s.2=true∨∃p∈l,p.1=id∨Ct id p.1=true
 | [],s,h=>.inl h
 | q::l,s,h=>by
  rcases B4h (l:=l) h with h | ⟨p,hp,h⟩
  ·rcases C5w h with h | h
   ·exact .inl h
   ·exact .inr ⟨q,by simp,h⟩
  ·exact .inr ⟨p,by simp[hp],h⟩
theorem B9f {id key:List UInt8} {L:List En} {i:Nat} {q:En} (hp:L.Pairwise fun x y=>klt x.1 y.1) (hq:L[i]?=some q) (h:(Ht id key (L.take i)).2=true):q.1≠id:=by
 rcases B4h h with h | ⟨p,hpm,h⟩
 ·cases h
 ·have aA:klt p.1 q.1:=by
   obtain⟨j,hj⟩:=List.mem_iff_getElem?.1 hpm;rw[List.getElem?_take]at hj;split at hj
   ·rename_i hji
    obtain⟨h1,e1⟩:=List.getElem?_eq_some_iff.1 hj;obtain⟨h2,e2⟩:=List.getElem?_eq_some_iff.1 hq;have:=List.pairwise_iff_getElem.1 hp j i h1 h2 hji;rwa [e1,e2]at this
   ·cases hj
  rcases h with h | h
  ·intro e;exact aA.ne (h.trans e.symm)
  ·intro e;exact ((P8.1 h).trans aA).ne e.symm
theorem Ee.one' (w:World) (base:Nat) (hb:base≤w.heap.size) {k:List UInt8} (hk:k.length=32):Ee (w.alloc (.cells (c8 k).toArray 23)) base (.slice (some ⟨w.heap.size,0,none⟩) 1 1) [k]:=
 ⟨by simpa using hk,by simp[hk],.inr ⟨w.heap.size,1,(c8 k).toArray,rfl,hb,heap_alloc_new w _,Nat.le_refl _,by simp[maxLen],by simp[hk],by simp only[List.toList_toArray,List.flatten_cons,List.flatten_nil,List.append_nil];rw[List.take_of_length_le (by simp[hk])]⟩⟩
theorem Rw.setk {w:World} {g:Nat} {t:TypeId} {r:Rw} (K:Bk w g t r.cells) (h:r.id.length=32) (s:Sv):Bk (w.setCell ⟨g,32,none⟩ (.slice s.a s.n s.c)) g t (Rw.mk r.id s).cells:=by
 have h1:=K.set_ 32 (.slice s.a s.n s.c);have e:r.cells.set 32 (.slice s.a s.n s.c)=(Rw.mk r.id s).cells:=by unfold Rw.cells Sv.v;rw[List.set_append_right _ _ (by simp[h])];simp[h]
 rw[e]at h1;exact h1
theorem D7v {w:World} {base base' g:Nat} {A:Option Addr} {c:Nat} {ks:List (List UInt8)} {key:List UInt8} {u:Value} (hk:∀k∈ks,k.length=32) (hkey:key.length=32) (h:w.ownsRow base 23 32 (.slice A (ks.length+1) c) (ks.length+1) (c8 ks.flatten++c8 key)) (hg:g<base) (hb:base'≤base) :
 Ee (w.setCell ⟨g,32,none⟩ u) base' (.slice A (ks.length+1) c) (ks++[key]):=by
 refine Ee.less ⟨fun q hq=>?_,?_⟩ hb
 ·rcases List.mem_append.1 hq with hq | hq
  ·exact hk q hq
  ·simp at hq;subst hq;exact hkey
 ·have e:c8 (ks++[key]).flatten=c8 ks.flatten++c8 key:=by simp[c8]
  rw[e,List.length_append,List.length_singleton];exact Nz (o:=32) h hg [u]
theorem OwnE.setFar {w:World} {lo base:Nat} {v:Value} {L:List En} {g i:Nat} {T:TypeId} {cs:List Value} (h:OwnE w lo base v L) (hk:Bk w g T cs) (hT:23≠T) (hne:v.ownBlock≠some g) (hlo:lo≤g) (u:Value):OwnE (w.setCell ⟨g,i,none⟩ u) lo base v L:=by
 obtain⟨hl,h0,R,h3,h4⟩:=h;have hg:=Bj w g i [u];refine ⟨hl,by simpa using h0,R,Fu.map (f:=fun {r q} h=>⟨h.1,h.2.1,h.2.2.1,?_⟩) h3,World.ownsRow.kept h4 hg (.inr hne)⟩;rcases h.2.2.2 with ⟨⟨e0,A,c,e1,e2,e3,e4⟩,ht⟩ | h
 ·exact .inl ⟨⟨e0,A,c,e1,e2,e3,e4.keep fun p _ hp=>Cf (o:=i) (vs:=[u]) (by omega)⟩,ht.setCell _ _⟩
 ·refine .inr ⟨h.1,World.ownsRow.kept h.2 hg ?_⟩;rcases h.2.2 with ⟨hv,_⟩ | ⟨g',cap,cur,hv,hg',hh,_⟩
  ·left;simp[hv,Value.ownBlock]
  ·right
   rw[hv];simp only[Value.ownBlock];intro e;injection e with e;subst e;unfold Bk at hk;rw[hk]at hh;injection hh with hh;injection hh with _ h2;exact hT h2.symm
structure WtI (w wr : World) (e : Int) (id key : List UInt8) (s : List En × Bool) (A : Option Addr) (c : Nat) : Prop where
 ki:Bk wr (w.heap.size+1) 23 (c8 id)
 kk:Bk wr (w.heap.size+2) 23 (c8 key)
 kz:Bk wr (w.heap.size+3) 37 [.int .i64 0,.slice none 0 0]
 ko:Bk wr (w.heap.size+4) 37 [.int .i64 e,.slice A s.1.length c]
 own:OwnE wr w.heap.size (w.heap.size+5) (.slice A s.1.length c) s.1
 below:Below w.heap.size w wr
section
variable {w wr w' : World} {e : Int} {id key : List UInt8} {s : List En × Bool} {A : Option Addr} {c : Nat}
theorem WtI.up (h:WtI w wr e id key s A c) (hb:Below wr.heap.size wr w'):WtI w w' e id key s A c:=
 ⟨h.ki.below hb h.ki.lt,h.kk.below hb h.kk.lt,h.kz.below hb h.kz.lt,h.ko.below hb h.ko.lt,h.own.below hb,C2 h.below hb h.below.size⟩
theorem WtI.setFar (h:WtI w wr e id key s A c) {g i:Nat} {T:TypeId} {cs:List Value} (hk:Bk wr g T cs) (hT:23≠T) (hne:(Value.slice A s.1.length c).ownBlock≠some g) (hlo:w.heap.size+5≤g) (u:Value):WtI w (wr.setCell ⟨g,i,none⟩ u) e id key s A c:=
 ⟨h.ki.far (by simp;omega) _,h.kk.far (by simp;omega) _,h.kz.far (by simp;omega) _,h.ko.far (by simp;omega) _,h.own.setFar hk hT hne (by omega) u,h.below.setCell (by simp;omega) _⟩
theorem WtI.more (h:WtI w wr e id key s A c) {w3:World} {A3:Option Addr} {c3:Nat} {q:En} {b:Bool} (hO:OwnE w3 w.heap.size (w.heap.size+5) (.slice A3 (s.1.length+1) c3) (s.1++[q])) (hB:Below (w.heap.size+5) wr w3) :
 WtI w (w3.setCell ⟨w.heap.size+4,1,none⟩ (.slice A3 (s.1.length+1) c3)) e id key (s.1++[q],b) A3 c3:=by
 have hl:(s.1++[q]).length=s.1.length+1:=by simp
 exact ⟨(h.ki.below hB (by omega)).far (by simp) _,(h.kk.below hB (by omega)).far (by simp) _,(h.kz.below hB (by omega)).far (by simp) _,
  by rw[hl];exact (h.ko.below hB (by omega)).set_ 1 _,by rw[hl];exact hO.set (by omega) (by omega) _,
  (h.below.trans (hB.mono (by omega))).setCell (by simp) _⟩
end
attribute [local go_sem ↓ high] Xi Xk
theorem C3d (e:Int) (ev:Value) (L:List En) (id key:List UInt8) (hid:id.length=32) (hkey:key.length=32) (ok:OkE L) (w:World) (hE:Es w w.heap.size ev L) (hLn:L.length≤1000000) (hks:∀q∈L,q.2.length≤1000000) :
 Calls Tryz.prog 32 #[.agg #[.int .i64 e,ev],A8 id,A8 key] w fun x w'=>∃v,x=.returned (.agg #[.int .i64 e,v])∧Es w' w'.heap.size v (Ck id key L)∧Below w.heap.size w w':=by
 obtain⟨A,c,rfl,bX,cO⟩:=hE.form;have HE:=Lib.hid hE;have HW:=Lib.hid (C4g (key:=key) hid ok);have bY:Hid (∀(i:Nat) (q:En),L[i]?=some q→(Ht id key (L.take i)).2=true→q.1≠id):=Lib.hid fun i q hq h=>B9f ok.rise hq h;obtain⟨n,hn⟩:=E9 (L.length);have HN:=Lib.hid hn;rw[←hn]at HE bX hLn ⊢;clear hE hn ok;obtain⟨W0,bB⟩:=E9 (((((w.alloc (Obj.cells #[.int .i64 e,.slice A n c] 37)).alloc (Obj.cells (c8 id).toArray 23)).alloc (Obj.cells (c8 key).toArray 23)).alloc (Obj.cells #[.int .i64 0,.slice none 0 0] 37)));have hL:W0=O8 w [(37,[.int .i64 e,.slice A n c]),(23,c8 id),(23,c8 key),(37,[.int .i64 0,.slice none 0 0])]:=bB;have B0:=Rf hL;have kd:=Um hL rfl;have ki:=Nm 1 hL rfl;have kk:=Nm 2 hL rfl;have kz:=Nm 3 hL rfl;have z0:W0.heap.size=w.heap.size+1+1+1+1:=by rw[hL,Mj];rfl
 clear hL;have d0:=kd.at_ (i:=0) (u:=.int .i64 e) rfl;have kn:Bk (W0.alloc (Obj.cells #[.int .i64 0,.slice none 0 0] 37)) (w.heap.size+1+1+1+1) 37 [.int .i64 0,.slice none 0 0]:=by rw[←z0];exact Bk.new W0 37 [.int .i64 0,.slice none 0 0]
 obtain⟨W1,aH⟩:=E9 (C4 (W0.alloc (Obj.cells #[.int .i64 0,.slice none 0 0] 37)) ⟨w.heap.size+1+1+1+1,0,none⟩ [.int .i64 e,.slice none 0 0]);have aI:=Mh 2 kn (by simp);have bQ:Bk W1 w.heap.size 37 [.int .i64 e,.slice A n c]:=by rw[aH];exact (kd.alloc _).putFar (by simp;omega) _
 have I1:WtI w W1 e id key (Ht id key (L.take 0)) none 0:=by refine ⟨by rw[aH];exact (ki.alloc _).putFar (by simp) _,by rw[aH];exact (kk.alloc _).putFar (by simp) _,by rw[aH];exact (kz.alloc _).putFar (by simp) _,?_,OwnE.nil _ _ _ (by omega) (by rw[aH];simp;omega),by rw[aH];exact C0 (B0.alloc (by omega) _) (by simp;omega) _⟩;rw[aH];exact kn.puts (vs:=[.int .i64 e,.slice none 0 0]) (by simp)
 have d1:=bQ.at_ (i:=1) (u:=.slice A n c) rfl;rw[aH]at d1;rw[bB]at d0 d1 aI;go_enter Tryz.func32,Tryz.ntmps32;go_wp2_with fail;rw[←bB,←aH];clear bB aH d0 d1 aI kd ki kk kz bQ kn B0 z0;have bZ:(Ht id key (L.take 0)).2=false:=rfl;go_loopw [8,18] (fun d x wr=>∃(i:Nat) (A':Option Addr) (c':Nat),i≤n∧x=.int .i64 (i:Int)∧d=.bool (Ht id key (L.take i)).2∧WtI w wr e id key (Ht id key (L.take i)) A' c'∧(Ht id key (L.take i)).1.length≤2*i) (fun d x _=>n-(intOf x).toNat)
 case atStart=>exact ⟨0,none,0,by omega,rfl,rfl,I1,Nat.le_refl _⟩
 case round=>
  clear I1 bZ;obtain⟨i,A',c',hi,rfl,rfl,I,bF⟩:=hrel;by_cases hlt:i<n
  ·have hd:decide ((i:Int)<(n:Int))=true:=decide_eq_true (by omega);have cP:=decide_eq_true hlt;obtain⟨q,hq⟩:∃q,L[i]?=some q:=⟨_,List.getElem?_eq_getElem (by rw[←HN.out];exact hlt)⟩;obtain⟨g,o,r,rfl,hg,hr,aP⟩:=HE.out.at_ hq;have aB:r.id.length=32:=by rw[hr.1];exact hr.2.1
   have bG:=Rw.len aB;have cA:=(N6 (a:=⟨g,o+i*33,none⟩) I.below hg).trans aP;have cQ:=hks q (List.mem_of_getElem? hq);have aA:=Lib.hid hr;have HS:=Lib.hid (B7u (id:=id) (key:=key) hq);have bC:Hid ((Ht id key (L.take (i+1))).1.length≤2*(i+1)):=Lib.hid (by
    rw[HS.out];have:=C6a (id:=id) (key:=key) (s:=Ht id key (L.take i)) (q:=q);omega)
   have HT:=Lib.hid (bY.out i q hq);obtain⟨S,hS⟩:=E9 (Ht id key (L.take i));rw[←hS]at I bF HS HT ⊢;clear hS;obtain⟨W,hW⟩:=E9 (C4 (wr.alloc (Obj.cells rwz.cells.toArray 44)) ⟨wr.heap.size,0,none⟩ r.cells);have k0:Bk (wr.alloc (Obj.cells rwz.cells.toArray 44)) wr.heap.size 44 rwz.cells:=Bk.new wr _ _;have aI:=Rw.can k0 A0a;have kW:Bk W wr.heap.size 44 r.cells:=by rw[hW];exact Rw.put k0 A0a aB
   have bW:Below wr.heap.size wr W:=by rw[hW];exact C0 (Bh _ _) (Nat.le_refl _) _
   have bR:∀k,(Value.slice A' S.1.length c').ownBlock=some k→k<wr.heap.size:=fun k hk=>(I.own.lt hk).2;have zr:w.heap.size+5≤wr.heap.size:=I.own.2.1;have IW:=I.up bW;have aL:∀(l:List UInt8),∀u∈c8 l,u.oneCell'=true:=fun l u hu=>by obtain⟨x,_,rfl⟩:=List.mem_map.1 hu;rfl
   have zW:wr.heap.size<W.heap.size:=kW.lt;have f1:=Rw.loadid kW aB;have f2:=Bk.row8 (n:=32) IW.ki hid;rw[hW]at f1 f2;clear hr aP hq k0 I;cases hdone:S.2 with
   | true=>
    have aQ:r.id≠id:=by rw[aA.out.1];exact HT.out hdone
    have he:(r.id==id)=false:=by simpa using aQ
    subst hW;have g1:=IW.ko.at_ (i:=1) rfl;have g2:=kW.rows;rw[bG]at g2;have g0:=Rw.loadid kW aB;have gi:=Bk.row8 (n:=32) IW.ki hid;have aR:Pf _ w.heap.size (w.heap.size+5) r q:=⟨aA.out.1,aA.out.2.1,aA.out.2.2.1,.inl (aA.out.2.2.2.below IW.below)⟩;go_wp2_with (at_builtin;refine C7d rfl _ _ rfl rfl IW.own r q aR _ rfl rfl (by first | rfl | simp) (by first | omega | (simp;omega)) ?_;intro A3 c3 w3 bH bI aJ aC aS aE;have aD:=IW.ko.below aC (by omega);have g3:=aD.at_ (i:=1) rfl;have aT:=aD.frozen 1);have IM:=Lib.hid (IW.more (b:=true) aJ aC);clear g1 g2 g0 gi aR aJ aC aS aE aD g3 aT;have aK:Hid (Ht id key (L.take (i+1))=(S.1++[q],true)):=Lib.hid (by
     rw[HS.out];unfold Fy;rw[←aA.out.1,if_neg aQ,hdone];rfl)
    go_roundw;case rel=>exact ⟨i+1,A3,c3,by omega,by go_num,by rw[aK.out],by rw[aK.out];exact IM.out,bC.out⟩
    case measure=>simp[intOf];omega
   | false=>
    go_wp2_with fail;rw[←hW];clear hW f1 f2 aI cA;refine (D0s id r.id hid aB W).mono ?_;rintro x W2 ⟨rfl,b2⟩;have kX:=kW.bl b2;have IX:=IW.up b2;have zX:wr.heap.size<W2.heap.size:=kX.lt;generalize hge:wr.heap.size=ge at *;have hs:id.length=32:=hid;cases hls:Ct id r.id with
    | true=>
     have aQ:r.id≠id:=fun e=>by rw[e,Lh]at hls;cases hls
     have he:(r.id==id)=false:=by simpa using aQ
     have l1:=IX.ko.at_ (i:=1) rfl;have l2:=Bk.row8 (n:=32) IX.ki hid;have l3:=Bk.row8 (n:=32) IX.kk hkey;have cB:(⟨id,⟨some ⟨W2.heap.size,0,none⟩,1,1⟩⟩:Rw).cells.length=33:=Rw.len hid;have bJ:Pf (W2.alloc (Obj.cells (c8 key).toArray 23)) w.heap.size (w.heap.size+5) ⟨id,⟨some ⟨W2.heap.size,0,none⟩,1,1⟩⟩ (id,[key]):=⟨rfl,hid,by simp,.inr (Ee.one' W2 (w.heap.size+5) (by omega) hkey)⟩;have IA:=IX.up ((Below.refl _ _).alloc (Nat.le_refl _) (Obj.cells (c8 key).toArray 23));have kA:=kX.alloc (Obj.cells (c8 key).toArray 23);have aU:Fy id key S q=(S.1++[(id,[key])]++[q],true):=by unfold Fy;rw[←aA.out.1,if_neg aQ,hdone,hls];rfl
     have aK:=Lib.hid aU;have bD:(S.1++[(id,[key])]).length=S.1.length+1:=by simp
     go_wp2_with (first | (at_builtin;refine C7d rfl _ _ rfl rfl IA.own ⟨id,⟨some ⟨W2.heap.size,0,none⟩,1,1⟩⟩ (id,[key]) bJ _ rfl rfl (by simp) (by omega) ?_;intro A4 c4 w4 bS bT bK aN bL aV;have aW:=IA.ko.below aN (by omega);have g4:=aW.at_ (i:=1) rfl;have cC:=aW.frozen 1;have k4:=kA.grown bL (fun h=>by have:=bR _ h.symm;omega);have I5:=IA.more (b:=true) bK aN;have k5:Bk (w4.setCell ⟨w.heap.size+4,1,none⟩ (.slice A4 (S.1.length+1) c4)) ge 44 r.cells:=k4.far (by simp;omega) _;have g1:=I5.ko.at_ (i:=1) rfl;have g2:=k5.rows;rw[bG]at g2;have g0:=Rw.loadid k5 aB;have gi:=Bk.row8 (n:=32) I5.ki hid;have aO:=I5.own;rw[bD]at aO g1;have bM:Pf (w4.setCell ⟨w.heap.size+4,1,none⟩ (.slice A4 (S.1.length+1) c4)) w.heap.size (w.heap.size+5) r q:=⟨aA.out.1,aA.out.2.1,aA.out.2.2.1,.inl (aA.out.2.2.2.below I5.below)⟩) | (at_builtin;refine C7d rfl _ _ rfl rfl aO r q bM _ rfl rfl (by first | rfl | simp) (by simp;omega) ?_;intro A3 c3 w3 bH bI aJ aC aS aE;have aD:=I5.ko.below aC (by omega);have g3:=aD.at_ (i:=1) rfl;have aT:=aD.frozen 1));have IM:=I5.more (b:=true) aJ aC;dsimp only at IM;rw[bD]at IM;have IM:=Lib.hid IM;clear aU;have aF:Hid (Ht id key (L.take (i+1))=(S.1++[(id,[key])]++[q],true)):=Lib.hid (by rw[HS.out,aK.out]);go_roundw;case rel=>exact ⟨i+1,A3,c3,by omega,by go_num,by rw[aF.out],by rw[aF.out];exact IM.out,bC.out⟩
     case measure=>simp[intOf];omega
    | false=>
     by_cases he0:r.id=id
     ·obtain⟨cD,⟨sa,sn,sc⟩⟩:=r;have cE:id=cD:=he0.symm;subst cE;have he:(id==id)=true:=by simp
      clear he0;have cF:sn=q.2.length:=by
       obtain⟨A0,c0,e0,_⟩:=aA.out.2.2.2.1.form;injection e0
      subst cF;have bU:=aA.out.2.2.2.1.below IX.below;have cG:=Aj bU.1;obtain⟨_,A0,c0,e0,_,_,aX⟩:=bU;injection e0 with e0 _ _;subst e0;have cH:Rd (W2.alloc (.cells #[] 23)) 0 w.heap.size sa (c8 q.2.flatten):=aX.below ((Below.refl _ _).alloc IX.below.size _);have kA:=kX.alloc (Obj.cells #[] 23);have IA:=IX.up ((Below.refl _ _).alloc (Nat.le_refl _) (Obj.cells #[] 23));have g0:=Rw.loadid kX hid;have gi:=Bk.row8 (n:=32) IX.ki hid;have gs:=Rw.loads kA hid;have cI:=aA.out.2.2.2.1.1;have aU:Fy id key S q=(S.1++[(id,q.2++[key])],true):=by
       have h1:=aA.out.1;dsimp only at h1;unfold Fy;rw[←h1,if_pos rfl,hdone,hls];rfl
      have aK:=Lib.hid aU;clear aU aX;have bN:ge<W2.heap.size:=kX.lt;have cJ:w.heap.size+5≤ge:=zr
      go_wp2_with (first | (at_builtin;refine B6v 42 (A8 (z8 32)) 32 Tryz.underlying42 A2x (by simp[A8,Value.cells]) (by decide) (by decide) rfl _ _ rfl rfl (n:=0) (base:=W2.heap.size) (World.ownsRow_made W2 #[] 0 (Nat.le_refl _) (Nat.zero_le _) (by simp)) sa q.2.length _ rfl (c8 q.2.flatten) (by simp[cG]) 0 _ cH (aL _) (by omega) (by simp) ?_;intro A4 c4 w4 bS bT aG aN bL aV;have aG:w4.ownsRow W2.heap.size 23 32 (.slice A4 q.2.length c4) q.2.length (c8 q.2.flatten):=(by simpa using aG);have bE:Below W2.heap.size W2 w4:=(Bh _ _).trans aN;have I4:=IX.up bE;have k4:=kX.below bE bN;have gk:=Bk.row8 (n:=32) I4.kk hkey) | (at_builtin;refine Cn 42 23 (A8 (z8 32)) 32 32 Tryz.underlying42 A2x (by simp[A8,Value.cells]) (by decide) (by decide) rfl _ _ rfl rfl aG (c8 key) (by simp[hkey]) (aL _) _ rfl rfl rfl (by omega) bE.size ?_;intro A5 c5 w5 cR cS aY cK cT cL;have bV:Below W2.heap.size W2 w5:=bE.trans cK;have I5:=IX.up bV;have k5:=kX.below bV bN;have cU:=Rw.loads k5 hid;have cV:=k5.frozen 32;have I6:=I5.setFar (i:=32) k5 (by decide) (fun h=>by have:=bR _ h;omega) cJ (.slice A5 (q.2.length+1) c5);have k6:=Rw.setk k5 hid ⟨A5,q.2.length+1,c5⟩;have g1:=I6.ko.at_ (i:=1) rfl;have g2:=k6.rows;rw[Rw.len hid]at g2;have cM:(⟨id,⟨A5,q.2.length+1,c5⟩⟩:Rw).cells.length=33:=Rw.len hid;have bO:Pf (w5.setCell ⟨ge,32,none⟩ (.slice A5 (q.2.length+1) c5)) w.heap.size (w.heap.size+5) ⟨id,⟨A5,q.2.length+1,c5⟩⟩ (id,q.2++[key]):=⟨rfl,hid,by simp,.inr (D7v (cI) hkey aY bN (by omega))⟩) | (at_builtin;refine C7d rfl _ _ rfl rfl I6.own ⟨id,⟨A5,q.2.length+1,c5⟩⟩ (id,q.2++[key]) bO _ rfl rfl (by first | rfl | simp) (by first | omega | (simp;omega)) ?_;intro A3 c3 w3 bH bI aJ aC aS aE;have aD:=I6.ko.below aC (by omega);have g3:=aD.at_ (i:=1) rfl;have aT:=aD.frozen 1))
      have IM:=Lib.hid (I6.more (b:=true) aJ aC);have aF:Hid (Ht id key (L.take (i+1))=(S.1++[(id,q.2++[key])],true)):=Lib.hid (by rw[HS.out,aK.out]);go_roundw;case rel=>exact ⟨i+1,A3,c3,by omega,by go_num,by rw[aF.out],by rw[aF.out];exact IM.out,bC.out⟩
      case measure=>simp[intOf];omega
     ·have he:(r.id==id)=false:=by simpa using he0
      have g1:=IX.ko.at_ (i:=1) rfl;have g2:=kX.rows;rw[bG]at g2;have g0:=Rw.loadid kX aB;have gi:=Bk.row8 (n:=32) IX.ki hid;have aR:Pf W2 w.heap.size (w.heap.size+5) r q:=⟨aA.out.1,aA.out.2.1,aA.out.2.2.1,.inl (aA.out.2.2.2.below IX.below)⟩;go_wp2_with (at_builtin;refine C7d rfl _ _ rfl rfl IX.own r q aR _ rfl rfl (by first | rfl | simp) (by first | omega | (simp;omega)) ?_;intro A3 c3 w3 bH bI aJ aC aS aE;have aD:=IX.ko.below aC (by omega);have g3:=aD.at_ (i:=1) rfl;have aT:=aD.frozen 1);have IM:=Lib.hid (IX.more (b:=false) aJ aC);clear g1 g2 g0 gi aR aJ aC aS aE aD g3 aT;have aK:Hid (Ht id key (L.take (i+1))=(S.1++[q],false)):=Lib.hid (by
       rw[HS.out];unfold Fy;rw[←aA.out.1,if_neg he0,hdone,hls];rfl)
      go_roundw;case rel=>exact ⟨i+1,A3,c3,by omega,by go_num,by rw[aK.out],by rw[aK.out];exact IM.out,bC.out⟩
      case measure=>simp[intOf];omega
  ·obtain rfl:i=n:=by omega
   have hd:decide ((i:Int)<(i:Int))=false:=decide_eq_false (by omega);have aM:L.take i=L:=List.take_of_length_le (by rw[←HN.out];exact Nat.le_refl _);rw[aM]at I bF ⊢;obtain⟨S,hS⟩:=E9 (Ht id key L);have aZ:=HW.out;rw[←hS]at I bF aZ ⊢;clear hS aM;cases hdone:S.2 with
   | true=>
    have bA:S.1=Ck id key L:=by rw[←aZ];unfold B6w;rw[hdone];rfl
    have g1:C8 wr ⟨w.heap.size+4,0,none⟩ 2=some [.int .i64 e,.slice A' S.1.length c']:=I.ko.rows;have hc:=I.kz.can (o:=0) (n:=2) (by simp);have Hf:=Lib.hid (I.own.put (g:=w.heap.size+3) (o:=0) (by omega) (by omega) [.int .i64 e,.slice A' S.1.length c']).es;have bP:=Lib.hid bA;clear aZ bA;go_wp2_with fail;exact bodyPost_ret (C5 rfl _ _ _ _ _ _ rfl (Bk.puts (g:=w.heap.size+1+1+1) I.kz (vs:=[.int .i64 e,.slice A' S.1.length c']) (by simp)) Tq rfl (by simp[Yi])) rfl ⟨_,rfl,by rw[←bP.out];exact Hf.out,C0 I.below (by simp;omega) _⟩
   | false=>
    have bA:S.1++[(id,[key])]=Ck id key L:=by rw[←aZ];unfold B6w;rw[hdone];rfl
    have bP:=Lib.hid bA;clear bA aZ;have l1:=I.ko.at_ (i:=1) rfl;have l2:=Bk.row8 (n:=32) I.ki hid;have l3:=Bk.row8 (n:=32) I.kk hkey;have zr:w.heap.size+5≤wr.heap.size:=I.own.2.1;have cB:(⟨id,⟨some ⟨wr.heap.size,0,none⟩,1,1⟩⟩:Rw).cells.length=33:=Rw.len hid;have bJ:Pf (wr.alloc (Obj.cells (c8 key).toArray 23)) w.heap.size (w.heap.size+5) ⟨id,⟨some ⟨wr.heap.size,0,none⟩,1,1⟩⟩ (id,[key]):=⟨rfl,hid,by simp,.inr (Ee.one' wr (w.heap.size+5) (by omega) hkey)⟩;have IA:=I.up ((Below.refl _ _).alloc (Nat.le_refl _) (Obj.cells (c8 key).toArray 23));have bD:(S.1++[(id,[key])]).length=S.1.length+1:=by simp
    go_wp2_with (at_builtin;refine C7d rfl _ _ rfl rfl IA.own ⟨id,⟨some ⟨wr.heap.size,0,none⟩,1,1⟩⟩ (id,[key]) bJ _ rfl rfl (by simp) (by omega) ?_;intro A4 c4 w4 bS bT bK aN bL aV;have aW:=IA.ko.below aN (by omega);have g4:=aW.at_ (i:=1) rfl;have cC:=aW.frozen 1;have I5:=IA.more (b:=true) bK aN;have g5:C8 (w4.setCell ⟨w.heap.size+4,1,none⟩ (.slice A4 (S.1.length+1) c4)) ⟨w.heap.size+4,0,none⟩ 2=some [.int .i64 e,.slice A4 (S.1++[(id,[key])]).length c4]:=I5.ko.rows;have aO:=I5.own;dsimp only at aO;rw[bD]at g5 aO;have cW:=I5.kz.can (o:=0) (n:=2) (by simp);have cN:=I5.kz;have b5:=I5.below);have Hf:=Lib.hid (aO.put (g:=w.heap.size+3) (o:=0) (by omega) (by omega) [.int .i64 e,.slice A4 (S.1.length+1) c4]).es;exact bodyPost_ret (C5 rfl _ _ _ _ _ _ rfl (Bk.puts (g:=w.heap.size+1+1+1) cN (vs:=[.int .i64 e,.slice A4 (S.1.length+1) c4]) (by simp)) Tq rfl (by simp[Yi])) rfl ⟨_,rfl,by rw[←bP.out];exact Hf.out,C0 b5 (by simp;omega) _⟩
end
section
def B0l (ds:List Value):Prop:=∀d∈ds,∀x:UInt8,d≠v8 x
theorem F0a {w:World} {lo B g:Nat} {A:Option Addr} {T:TypeId} {cs ds:List Value} {x:UInt8} {b o:Nat} (hk:Bk w g T ds) (hd:B0l ds) (hc:w.cell? ⟨b,o,none⟩=some (v8 x)):b≠g:=fun e=>by
 subst e;unfold Bk at hk;unfold World.cell? at hc;rw[hk]at hc;have hc:ds.toArray[o]?=some (v8 x):=hc;exact hd _ (by have:=Array.mem_of_getElem? hc;simpa using this) x rfl
theorem C7w {w:World} {lo B g o:Nat} {A:Option Addr} {T:TypeId} {cs ds:List Value} {x:UInt8} (h:Rd w lo B A cs) (hx:cs[0]?=some (v8 x)) (hk:Bk w g T ds) (hd:B0l ds) (vs:List Value):Rd (C4 w ⟨g,o,none⟩ vs) lo B A cs:=by
 rcases h with h | ⟨b,of,h1,h2,h3,h4⟩
 ·exact .inl h
 ·have aA:=F0a (lo:=lo) (B:=B) (A:=A) (cs:=cs) hk hd (h4 0 _ hx);exact .inr ⟨b,of,h1,h2,h3,fun j u hj=>by rw[Cf aA];exact h4 j u hj⟩
theorem B2a {l:List UInt8} (h:0<l.length):∃x,(c8 l)[0]?=some (v8 x):=by
 cases l with
 | nil=>simp at h
 | cons a l=>exact ⟨a,rfl⟩
section
variable {w : World} {B g o : Nat} {T : TypeId} {ds vs : List Value}
theorem D1i {v:Value} {ks:List (List UInt8)} (h:Hs w 0 B v ks) (hn:0<ks.length) (hk:Bk w g T ds) (hd:B0l ds):Hs (C4 w ⟨g,o,none⟩ vs) 0 B v ks:=by
 obtain⟨h0,A,c,h1,h2,h3,h4⟩:=h;have hl:=Aj h0;obtain⟨x,hx⟩:=B2a (l:=ks.flatten) (by rw[hl];omega);exact ⟨h0,A,c,h1,h2,h3,C7w h4 hx hk hd vs⟩
theorem C1p (hk:Bk w g T ds) (hd:B0l ds):∀ {R:List Rw} {L:List En},Cv w B R L→Cv (C4 w ⟨g,o,none⟩ vs) B R L
 | [],[],_=>trivial
 | _::_,_::_,h=>⟨⟨h.1.1,h.1.2.1,h.1.2.2.1,D1i h.1.2.2.2.1 h.1.2.2.1 hk hd,h.1.2.2.2.2.putAt g vs o⟩,C1p hk hd h.2⟩
 | [],_::_,h=>h.elim
 | _::_,[],h=>h.elim
theorem Es.put {v:Value} {L:List En} (h:Es w B v L) (hk:Bk w g T ds) (hd:B0l ds):Es (C4 w ⟨g,o,none⟩ vs) B v L:=by
 obtain⟨R,h1,A,c,h2,h3,h4,h5,h6⟩:=h;refine ⟨R,C1p hk hd h1,A,c,h2,h3,h4,?_,h6.putAt g vs o⟩;cases R with
 | nil=>exact .inl rfl
 | cons r R=>
  have hr:=h1.ids r (by simp);obtain⟨x,hx⟩:=B2a (l:=r.id) (by omega);refine C7w (x:=x) h5 ?_ hk hd vs;rw[List.flatMap_cons];unfold Rw.cells;rw[List.append_assoc,List.getElem?_append_left (by simp;omega)];exact hx
end
def BS (w:World) (B:Nat) (v:Value) (gs:List Bool):Prop:=(gs=[]∧v=.slice none 0 0)∨∃g tl c,v=.slice (some ⟨g,0,none⟩) gs.length c∧Bk w g 4 (gs.map Value.bool++tl)∧g<B
theorem BS.form {w:World} {B:Nat} {v:Value} {gs:List Bool} (h:BS w B v gs):∃A c,v=.slice A gs.length c:=by
 rcases h with ⟨rfl,rfl⟩ | ⟨g,tl,c,rfl,_,_⟩
 ·exact ⟨none,0,rfl⟩
 ·exact ⟨_,_,rfl⟩
theorem BS.below {w w':World} {B:Nat} {v:Value} {gs:List Bool} (h:BS w B v gs) (hb:Below B w w'):BS w' B v gs:=by
 rcases h with h | ⟨g,tl,c,h1,h2,h3⟩
 ·exact .inl h
 ·exact .inr ⟨g,tl,c,h1,h2.below hb h3,h3⟩
theorem BS.more {w:World} {B B':Nat} {v:Value} {gs:List Bool} (h:BS w B v gs) (hb:B≤B'):BS w B' v gs:=by
 rcases h with h | ⟨g,tl,c,h1,h2,h3⟩
 ·exact .inl h
 ·exact .inr ⟨g,tl,c,h1,h2,by omega⟩
theorem A2u {α:Type} (p q:α→Bool):∀(l:List α),(∀x∈l,p x=true→q x=false)→(l.filter p).length+(l.filter q).length≤l.length
 | [],_=>by simp
 | x::l,h=>by
  have ih:=A2u p q l fun y hy=>h y (by simp[hy]);rw[List.filter_cons,List.filter_cons];cases hp:p x with
  | true=>
   rw[h x (by simp) hp];simp;omega
  | false=>
   cases hq:q x<;>simp<;>omega
theorem A7v {L:List En} {id key:List UInt8} (ok:OkE L) (hid:id.length=32):(Ck id key L).length≤L.length+1:=by
 have h:=A2u (fun q:En=>Ct q.1 id) (fun q:En=>Ct id q.1) L fun q _ h=>Ma h;unfold Ck;simp only[List.length_append,List.length_singleton];omega
structure RaI (w wr : World) (e : Int) (L : List En) (us : List UV) (i : Nat) (ev : Value) (L' : List En) : Prop where
 eq:L'=applyE (us.take i) L
 kd:Bk wr w.heap.size 37 [.int .i64 e,ev]
 kr:Bk wr (w.heap.size+1) 37 [.int .i64 0,.slice none 0 0]
 es:Es wr wr.heap.size ev L'
 ok:OkE L'
 len:L'.length≤L.length+i
 lks:∀x,(lookE L' x).length≤(lookE L x).length+i
 below:Below w.heap.size w wr
theorem RaI.up {w wr w':World} {e:Int} {L:List En} {us:List UV} {i:Nat} {ev:Value} {L':List En} (h:RaI w wr e L us i ev L') (hb:Below wr.heap.size wr w'):RaI w w' e L us i ev L':=
 ⟨h.eq,h.kd.below hb h.kd.lt,h.kr.below hb h.kr.lt,h.es.up hb,h.ok,h.len,h.lks,C2 h.below hb h.below.size⟩
theorem A0o {us:List UV} {i:Nat} {u:UV} (hu:us[i]?=some u) (L:List En):applyE (us.take (i+1)) L=Jv (applyE (us.take i) L) u:=by
 have e1:us.take (i+1)=us.take i++[u]:=by rw[List.take_add_one,hu];rfl
 unfold applyE;rw[e1,List.foldl_append];rfl
theorem RaI.skip {w wr:World} {e:Int} {L:List En} {us:List UV} {i:Nat} {ev:Value} {L':List En} (h:RaI w wr e L us i ev L') {u:UV} (hu:us[i]?=some u) (hn:Hn (lookE L' u.id) u=false):RaI w wr e L us (i+1) ev L':=
 { h with
  eq:=by rw[A0o hu,←h.eq];unfold Jv;rw[hn];rfl
  len:=Nat.le_trans h.len (by omega)
  lks:=fun x=>Nat.le_trans (h.lks x) (by omega) }
theorem B1r {L':List En} (ok:OkE L') {id key:List UInt8} (hid:id.length=32) (hkey:key.length=32) {L:List En} {i:Nat} (h:∀x,(lookE L' x).length≤(lookE L x).length+i) (x:List UInt8):(lookE (Ck id key L') x).length≤(lookE L x).length+(i+1):=by
 rw[Lt ok hid hkey x];by_cases hx:x=id
 ·rw[if_pos hx,hx];have:=h id;simp;omega
 ·rw[if_neg hx];have:=h x;omega
theorem Tn (e:Int) (A:Option Addr) (n c:Nat):B0l [.int .i64 e,.slice A n c]:=by
 intro d hd x;simp only[List.mem_cons,List.not_mem_nil,or_false]at hd;rcases hd with rfl | rfl
 ·intro h;unfold v8 at h;injection h with h;cases h
 ·intro h;unfold v8 at h;cases h
attribute [local go_sem ↓ high] Xi Xk
theorem B8z (e : Nat) (ev : Value) (L : List En) (us : List UV) (v gv : Value) (w : World) (hE : Es w w.heap.size ev L) (ok : OkE L) (hU : US w w.heap.size v us) (hG : BS w w.heap.size gv (us.map signedB)) (he : e ≤ 1000000000) (hLn : L.length + us.length ≤ 100000) (hks : ∀ x, (lookE L x).length + us.length ≤ 100000) :
    Calls Tryz.prog 10 #[.agg #[.int .i64 (e : Int), ev], v, gv] w fun x w' => ∃ ev', x = .returned (.agg #[.int .i64 ((e + 1 : Nat) : Int), ev']) ∧ Es w' w'.heap.size ev' (applyE us L) ∧ Below w.heap.size w w' := by
  obtain ⟨A0, c0, rfl, bK, bL⟩ := hE.form
  obtain ⟨A, c, rfl⟩ := hU.form
  obtain ⟨G, d, rfl⟩ := hG.form
  have aH : (us.map signedB).length = us.length := by simp
  obtain ⟨n, hn⟩ := E9 (us.length)
  rw [aH] at hG ⊢
  rw [← hn] at hLn hks hU hG ⊢
  have HN := Lib.hid hn
  have HU := Lib.hid hU
  have HG := Lib.hid hG
  clear hn hU hG aH
  obtain ⟨W0, aN⟩ := E9 ((w.alloc (Obj.cells #[.int .i64 (e : Int), .slice A0 L.length c0] 37)).alloc (Obj.cells #[.int .i64 0, .slice none 0 0] 37))
  have hL : W0 = O8 w [(37, [.int .i64 (e : Int), .slice A0 L.length c0]), (37, [.int .i64 0, .slice none 0 0])] := aN
  have B0 := Rf hL
  have kd := Um hL rfl
  have kr := Nm 1 hL rfl
  clear hL
  have I0 : RaI w W0 (e : Int) L us 0 (.slice A0 L.length c0) L := ⟨rfl, kd, kr, hE.up B0, ok, Nat.le_refl _, fun x => Nat.le_refl _, B0⟩
  have bA : IntKind.i64.wrap ((e : Int) + 1) = (e : Int) + 1 := IntWalk.i64_in _ (by omega)
  go_enter Tryz.func10, Tryz.ntmps10
  go_wp2_with fail
  rw [← aN]
  clear aN kd kr B0 hE ok
  go_loopw [11] (fun x wr => ∃ (i : Nat) (ev : Value) (L' : List En), i ≤ n ∧ x = .int .i64 (i : Int) ∧ RaI w wr (e : Int) L us i ev L') (fun x _ => n - (intOf x).toNat)
  case atStart => exact ⟨0, _, L, by omega, rfl, I0⟩
  case round =>
    clear I0
    obtain ⟨i, ev, L', hi, rfl, I⟩ := hrel
    obtain ⟨A1, c1, rfl, _, _⟩ := I.es.form
    by_cases hlt : i < n
    · have hd : decide ((i : Int) < (n : Int)) = true := decide_eq_true (by omega)
      have bM := decide_eq_true hlt
      have aD : i < us.length := by rw [← HN.out]; exact hlt
      obtain ⟨u, hu⟩ : ∃ u, us[i]? = some u := ⟨_, List.getElem?_eq_getElem aD⟩
      obtain ⟨g, tl, rfl, aO, hg⟩ : ∃ g tl, A = some ⟨g, 0, none⟩ ∧ UH w g us tl ∧ g < w.heap.size := by
        rcases HU.out with ⟨h1, _⟩ | ⟨g, tl, c', h1, h2, h3⟩
        · rw [h1] at aD; simp at aD
        · injection h1 with h1; exact ⟨g, tl, h1, h2, h3⟩
      obtain ⟨gg, tg, rfl, aT, bB⟩ : ∃ g tl, G = some ⟨g, 0, none⟩ ∧ Bk w g 4 ((us.map signedB).map Value.bool ++ tl) ∧ g < w.heap.size := by
        rcases HG.out with ⟨h1, _⟩ | ⟨g, tl, c', h1, h2, h3⟩
        · have h2 : us = [] := by simpa using h1
          rw [h2] at aD; simp at aD
        · injection h1 with h1; exact ⟨g, tl, h1, h2, h3⟩
      have aB : u.Ok := aO.1 u (List.mem_of_getElem? hu)
      have bC := (aO.below I.below hg).row hu
      have aI := aB.id
      have aP := aB.key
      have bD := aB.len
      have aU : ((us.map signedB).map Value.bool ++ tg)[i]? = some (.bool (signedB u)) := by
        rw [List.getElem?_append_left (by simp; omega), List.getElem?_map, List.getElem?_map, hu]; rfl
      have Hu := Lib.hid hu
      obtain ⟨W, hW⟩ := E9 (C4 (wr.alloc (Obj.cells (Ch (Qj 129)).toArray 63)) ⟨wr.heap.size, 0, none⟩ (Ch u))
      have aJ := (Bk.new wr 63 (Ch (Qj 129))).canvc (n := 129) (Kd _).len
      have ku : Bk W wr.heap.size 63 (Ch u) := by rw [hW]; exact (Bk.new wr 63 (Ch (Qj 129))).putvc (n := 129) (Kd _).len bD
      have IW := I.up (w' := W) (by rw [hW]; exact C0 (Bh _ _) (Nat.le_refl _) _)
      have aM := (aT.below IW.below bB).at_ aU
      clear I aO aD hu aT aU
      go_wp2_with fail
      rw [← hW]
      clear hW aJ bC
      generalize wr.heap.size = gu at *
      have aV := IW.lks u.id
      have bN := hks u.id
      have bO := IW.len
      cases hsg : signedB u with
      | false =>
        have aE : Hn (lookE L' u.id) u = false := by unfold Hn; rw [hsg]; rfl
        have aA : W.cell? ⟨gg, i, none⟩ = some (.bool false) := by rw [← hsg]; exact aM
        have IS := Lib.hid (IW.skip Hu.out aE)
        clear aM aE hsg
        go_quiet (fail)
        go_wp2_with fail
        go_roundw
        case rel => exact ⟨i + 1, _, L', by omega, by go_num, IS.out.up (K9 (Below.refl _ _) _)⟩
        case measure => simp [intOf]; omega
      | true =>
        have aA : W.cell? ⟨gg, i, none⟩ = some (.bool true) := by rw [← hsg]; exact aM
        have aE : Hid (Hn (lookE L' u.id) u = decide (u.ver = ((lookE L' u.id).length : Int) + 1)) := Lib.hid (by unfold Hn; rw [hsg]; rfl)
        clear aM hsg
        have S0 := Kg W
        have I1 := IW.up S0
        have aQ := ku.bl S0
        have aH : gg < W.heap.size := by
          cases h : W.heap[gg]? with
          | none => unfold World.cell? at aA; rw [h] at aA; cases aA
          | some o => exact (Array.getElem?_eq_some_iff.1 h).1
        refine Jh (fun X => Bk X w.heap.size 37 [.int .i64 (e : Int), .slice A1 L'.length c1] ∧ Bk X gu 63 (Ch u) ∧ X.cell? ⟨gg, i, none⟩ = some (.bool true)) ?_
        refine Fs (A := ?bP) [0, 1, 2, 3, 4, 5, 6, 7, 8, 9] ⟨I1.kd, aQ, aA⟩ (fun X hX => ?bE) ?bQ
        case bE =>
          have f1 : C8 X ⟨w.heap.size, 0, none⟩ 2 = some [.int .i64 (e : Int), .slice A1 L'.length c1] := hX.1.rows
          have f2 := UV.loadid hX.2.1 aB
          have f3 := UV.loadver hX.2.1 aB
          have f4 := hX.2.2
          exact Gq
        refine Ci 10 fun Q' hQ' => ?_
        dsimp only [C7]
        have aW := Lib.hid hQ'
        clear hQ'
        go_wp2_with fail
        refine (C3y (e : Int) _ L' u.id aI W.drew I1.es).mono ?_
        rintro x w2 ⟨r, rfl, aK, b2⟩
        have I2 := I1.up b2
        have aC := aQ.bl b2
        have aF : w2.cell? ⟨gg, i, none⟩ = some (.bool true) := by rw [b2.cell (p := ⟨gg, i, none⟩) aH]; exact aA
        obtain ⟨Ar, cr, rfl⟩ := aK.form
        go_wp2_with fail
        refine aW.out _ _ ⟨I2.kd, aC, aF⟩ ?_
        clear aW
        obtain ⟨k, hk⟩ := E9 ((lookE L' u.id).length)
        have HK := Lib.hid hk
        rw [← hk]
        rw [← hk] at aV
        clear hk
        have aX : IntKind.i64.wrap ((k : Int) + 1) = (k : Int) + 1 := IntWalk.i64_in _ (by omega)
        refine Ci 11 fun Q' hQ' => ?_
        dsimp only [C7]
        go_wp2_with fail
        refine hQ' _ _ ⟨I2.kd, aC, aF⟩ ?_
        clear hQ'
        refine Ci 12 fun Q' hQ' => ?_
        dsimp only [C7]
        go_wp2_with fail
        refine hQ' _ _ ⟨I2.kd, aC, aF⟩ ?_
        clear hQ'
        refine Ci 13 fun Q' hQ' => ?_
        dsimp only [C7]
        go_wp2_with fail
        refine hQ' _ _ ⟨I2.kd, aC, aF⟩ ?_
        clear hQ'
        refine Ci 14 fun Q' hQ' => ?_
        dsimp only [C7]
        go_wp2_with fail
        refine hQ' _ _ ⟨I2.kd, aC, aF⟩ ?_
        clear hQ'
        refine It ?_
        clear S0 I1 aQ aA aH b2 aF ku IW
        cases hv : (u.ver == (k : Int) + 1) with
        | false =>
          have bF : Hn (lookE L' u.id) u = false := by
            rw [aE.out, ← HK.out]
            simpa using hv
          have IS := Lib.hid (I2.skip Hu.out bF)
          go_wp2_with fail
          go_roundw
          case rel => exact ⟨i + 1, _, L', by omega, by go_num, IS.out⟩
          case measure => simp [intOf]; omega
        | true =>
          have aY : Hn (lookE L' u.id) u = true := by
            rw [aE.out, ← HK.out]
            simpa using hv
          have f1 : C8 w2 ⟨w.heap.size, 0, none⟩ 2 = some [.int .i64 (e : Int), .slice A1 L'.length c1] := I2.kd.rows
          have f2 := UV.loadid aC aB
          have f3 := UV.loadkey aC aB
          have bG : Hid (∀ q ∈ L', q.2.length ≤ 1000000) := Lib.hid (fun q hq => by
            have h1 := I2.lks q.1
            rw [Gd I2.ok.rise q hq] at h1
            have := hks q.1
            omega)
          have bH := Lib.hid aY
          clear aY aE HK aV aK
          go_wp2_with fail
          refine (C3d (e : Int) _ L' u.id u.key aI aP I2.ok w2 I2.es (by omega) bG.out).mono ?_
          rintro x w3 ⟨v3, rfl, aR, b3⟩
          have I3 := I2.up b3
          obtain ⟨A3, c3, rfl, _, _⟩ := aR.form
          have aJ : P7 w3 ⟨w.heap.size, 0, none⟩ 2 = true := I3.kd.can (by simp)
          have aZ := I3.ok.with (id := u.id) (key := u.key) aI aP
          have IF : RaI w (C4 w3 ⟨w.heap.size, 0, none⟩ [.int .i64 (e : Int), .slice A3 (Ck u.id u.key L').length c3]) (e : Int) L us (i + 1) (.slice A3 (Ck u.id u.key L').length c3) (Ck u.id u.key L') :=
            { eq := by rw [A0o Hu.out, ← I3.eq]; unfold Jv; rw [bH.out]; rfl
              kd := I3.kd.puts (by simp)
              kr := I3.kr.putFar (by simp) _
              es := by have := aR.put (o := 0) (vs := [.int .i64 (e : Int), .slice A3 (Ck u.id u.key L').length c3]) I3.kd (Tn _ _ _ _); simpa using this
              ok := aZ
              len := by
                have h1 := A7v (id := u.id) (key := u.key) I3.ok aI
                have := I3.len
                omega
              lks := B1r I3.ok aI aP I3.lks
              below := C0 I3.below (Nat.le_refl _) _ }
          have IF := Lib.hid IF
          clear aZ aR
          go_wp2_with fail
          go_roundw
          case rel => exact ⟨i + 1, _, Ck u.id u.key L', by omega, by go_num, IF.out⟩
          case measure => simp [intOf]; omega
    · obtain rfl : i = n := by omega
      have hd : decide ((i : Int) < (i : Int)) = false := decide_eq_false (by omega)
      have aL : us.take i = us := List.take_of_length_le (by rw [← HN.out]; exact Nat.le_refl _)
      have HQ : Hid (applyE us L = L') := Lib.hid (by rw [I.eq, aL])
      have d0 := I.kd.at_ (i := 0) rfl
      have f0 := I.kd.frozen 0
      obtain ⟨W1, aG⟩ := E9 (wr.setCell ⟨w.heap.size, 0, none⟩ (.int .i64 ((e : Int) + 1)))
      have bI : Bk W1 w.heap.size 37 [.int .i64 ((e : Int) + 1), .slice A1 L'.length c1] := by rw [aG]; exact I.kd.set_ 0 _
      have aS : Bk W1 (w.heap.size + 1) 37 [.int .i64 0, .slice none 0 0] := by rw [aG]; exact I.kr.far (by simp) _
      have r1 : C8 W1 ⟨w.heap.size, 0, none⟩ 2 = some [.int .i64 ((e : Int) + 1), .slice A1 L'.length c1] := bI.rows
      have bJ := aS.can (o := 0) (n := 2) (by simp)
      have b1 : Below w.heap.size w W1 := by rw [aG]; exact I.below.setCell (Nat.le_refl _) _
      have e1 : Es W1 W1.heap.size (.slice A1 L'.length c1) L' := by
        rw [aG, show wr.setCell ⟨w.heap.size, 0, none⟩ (.int .i64 ((e : Int) + 1)) = C4 wr ⟨w.heap.size, 0, none⟩ [.int .i64 ((e : Int) + 1)] from rfl]
        have := I.es.put (o := 0) (vs := [.int .i64 ((e : Int) + 1)]) I.kd (Tn _ _ _ _)
        simpa using this
      have e2 : Hid (Es (C4 W1 ⟨w.heap.size + 1, 0, none⟩ [.int .i64 ((e : Int) + 1), .slice A1 L'.length c1]) (C4 W1 ⟨w.heap.size + 1, 0, none⟩ [.int .i64 ((e : Int) + 1), .slice A1 L'.length c1]).heap.size (.slice A1 L'.length c1) L') := Lib.hid (by
        have := e1.put (o := 0) (vs := [.int .i64 ((e : Int) + 1), .slice A1 L'.length c1]) aS (Tn _ _ _ _)
        simpa using this)
      rw [aG] at r1 bJ
      clear e1
      go_wp2_with fail
      rw [← aG]
      exact bodyPost_ret (C5 rfl _ _ _ _ _ _ rfl (aS.puts (vs := [.int .i64 ((e : Int) + 1), .slice A1 L'.length c1]) (by simp)) Tq rfl (by simp [Yi])) rfl ⟨_, rfl, by rw [HQ.out]; exact e2.out, C0 b1 (by simp) _⟩
end
end Go.Proofs.YtlegpkdighoflaaGreat
