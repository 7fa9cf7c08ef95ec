/- A part of the proof of AuditTells. -/
import Derived.Test.YtmllnpokbbabhaaGreatTbi
set_option linter.unusedVariables false
set_option linter.unusedSimpArgs false
set_option maxRecDepth 100000
set_option maxHeartbeats 40000000
namespace Go.Proofs.YtmllnpokbbabhaaGreat
open Go Go.RowKit Sh
section
theorem D6c {sd A B:List UInt8} (h1:(Kh sd==A)=true) (h2:(C0i (A0c C6i D9q A 8)==B)=true):Cy sd=B:=by
 rw[beq_iff_eq]at h1;unfold Cy;rw[h1];exact C7f rfl h2
set_option maxRecDepth 100000
set_option maxHeartbeats 0
def eq9:List UInt8:=[206,204,21,7,220,29,221,114,149,149,28,41,8,136,240,149,173,185,4,77,27,115,214,150,230,223,6,93,104,59,212,252]
theorem F0s:Cy (h1 1)=eq9:=D6c (A:=[200,12,38,94,204,130,221,140,238,110,86,206,68,228,93,175,215,160,197,117,13,249,20,178,83,161,251,122,138,246,109,91]) (by decide +kernel) (by decide +kernel)
end
section
section
variable {w w' : World} {g o : Nat} {T : TypeId} {ds vs : List Value}
theorem DirIs.put {dv:Value} {e:Nat} {L:List En} {N:Nat} (h:DirIs w dv e L N) (hk:Bk w g T ds) (hd:C9l ds) (hT:T≠189):DirIs (C2 w ⟨g,o,none⟩ vs) dv e L N:=by
 obtain⟨ap,mv,m,t,h1,h2,h3,h4,h5,h6,h7⟩:=h;refine ⟨ap,mv,m,t,h1,?_,fun k=>?_,h4,h5,h6,?_⟩
 ·rcases h2 with h2 | ⟨b,n,hn,hb,hm⟩
  ·exact .inl h2
  ·refine .inr ⟨b,n,hn,hb,hm.kept (S4 w g o vs) fun e=>?_⟩;obtain⟨ob,q1,q2⟩:=hm.row b rfl;injection e with e;subst e;unfold Bk at hk;rw[hk]at q1;injection q1 with q1;subst q1;cases q2
 ·rcases h3 k with h | ⟨h,hn,ht⟩
  ·exact .inl h
  ·refine .inr ⟨?_,hn,ht.putAt g vs o⟩;have:=E0q (o:=o) (vs:=vs) h hn hk hd;simpa using this
 ·have:=At.put_ hk hT o vs h7;simpa using this
theorem BatchIs.put {ov gv:Value} {bs:List (List UV)} (h:BatchIs w ov gv bs) (hk:Bk w g T ds) (h1:T≠36) (h2:T≠55) (h3:T≠69) (h4:T≠4):BatchIs (C2 w ⟨g,o,none⟩ vs) ov gv bs:=by
 obtain⟨os,gs,a,b,c,d⟩:=h;have hg:=S4 w g o vs;refine ⟨os,gs,World.ownsRow.kept a hg (.inr fun e=>Y0 hk a h1 e.symm),World.ownsRow.kept b hg (.inr fun e=>Y0 hk b h2 e.symm),c.mono fun v x y=>?_,d.mono fun v x y=>?_⟩
 ·rcases y with y | ⟨g',tl,c',y1,y2,y3⟩
  ·exact .inl y
  ·exact .inr ⟨g',tl,c',y1,⟨y2.1,y2.2.putFar (fun e=>Bk.apart y2.2 hk h3.symm e) _⟩,by simpa using y3⟩
 ·rcases y with y | ⟨g',tl,c',y1,y2,y3⟩
  ·exact .inl y
  ·exact .inr ⟨g',tl,c',y1,y2.putFar (fun e=>Bk.apart y2 hk h4.symm e) _,by simpa using y3⟩
theorem BatchIs.up {ov gv:Value} {bs:List (List UV)} (h:BatchIs w ov gv bs) (hb:Below w.heap.size w w'):BatchIs w' ov gv bs:=by
 obtain⟨os,gs,a,b,c,d⟩:=h;exact ⟨os,gs,J7 a hb (Nat.le_refl _),J7 b hb (Nat.le_refl _),c.mono fun v x y=>(y.below hb).more hb.size,d.mono fun v x y=>(y.below hb).more hb.size⟩
theorem BatchIs.form {ov gv:Value} {bs:List (List UV)} (h:BatchIs w ov gv bs):(∃A c,ov=.slice A bs.length c)∧∃A c,gv=.slice A bs.length c:=by
 obtain⟨os,gs,a,b,c,d⟩:=h;have hc:=c.len;have hd:gs.length=bs.length:=by have:=d.len;simpa using this
 rw[hc]at a;rw[hd]at b;obtain⟨A,n,h1,_⟩:=F8 a;obtain⟨A',n',h2,_⟩:=F8 b;exact ⟨⟨A,n,h1⟩,⟨A',n',h2⟩⟩
theorem BatchIs.at_ {A A':Option Addr} {c c' n n':Nat} {bs:List (List UV)} (h:BatchIs w (.slice A n c) (.slice A' n' c') bs) {i:Nat} {us:List UV} (hi:bs[i]?=some us) :
 ∃g1 g2 u v,A=some ⟨g1,0,none⟩∧A'=some ⟨g2,0,none⟩∧g1<w.heap.size∧g2<w.heap.size∧w.cell? ⟨g1,i,none⟩=some u∧w.cell? ⟨g2,i,none⟩=some v∧US w w.heap.size u us∧BS w w.heap.size v (us.map signedB)∧∀(g:Nat) (T:TypeId) (ds:List Value),Bk w g T ds→36≠T→55≠T→g1≠g∧g2≠g:=by
 obtain⟨os,gs,a,b,cc,d⟩:=h;obtain⟨u,hu,aA⟩:=cc.at_ hi;obtain⟨v,hv,aB⟩:=d.at_ (i:=i) (x:=us.map signedB) (by rw[List.getElem?_map,hi];rfl);rcases B0h a with ⟨_,h0⟩ | ⟨g1,t1,c1,e1,k1,l1⟩
 ·have:=(List.getElem?_eq_some_iff.1 hu).1;omega
 ·rcases B0h b with ⟨_,h0⟩ | ⟨g2,t2,c2,e2,k2,l2⟩
  ·have:=(List.getElem?_eq_some_iff.1 hv).1;omega
  ·injection e1 with e1;injection e2 with e2;have q1:(os++t1)[i]?=some u:=by rw[List.getElem?_append_left (List.getElem?_eq_some_iff.1 hu).1];exact hu
   have q2:(gs++t2)[i]?=some v:=by rw[List.getElem?_append_left (List.getElem?_eq_some_iff.1 hv).1];exact hv
   exact ⟨g1,g2,u,v,e1,e2,l1,l2,k1.at_ q1,k2.at_ q2,aA,aB,fun g T ds hk h1 h2=>⟨Bk.apart k1 hk h1,Bk.apart k2 hk h2⟩⟩
end
theorem B7z {L:List En} {u:UV} (ok:OkE L) (hu:u.Ok):OkE (Cq L u)∧(Cq L u).length≤L.length+1∧∀x,(lookE (Cq L u) x).length≤(lookE L x).length+1:=by
 unfold Cq;split
 ·exact ⟨ok.with hu.id hu.key,C4s ok hu.id,fun x=>D2t ok hu.id hu.key (i:=0) (fun y=>Nat.le_refl _) x⟩
 ·exact ⟨ok,Nat.le_succ _,fun x=>Nat.le_succ _⟩
theorem Oe:∀ {us:List UV} {L:List En},OkE L→(∀u∈us,u.Ok)→OkE (applyE us L)∧(applyE us L).length≤L.length+us.length∧∀x,(lookE (applyE us L) x).length≤(lookE L x).length+us.length
 | [],L,ok,_=>⟨ok,Nat.le_refl _,fun x=>Nat.le_refl _⟩
 | u::us,L,ok,h=>by
  obtain⟨h1,h2,h3⟩:=B7z ok (h u (by simp));obtain⟨h4,h5,h6⟩:=Oe (us:=us) h1 fun x hx=>h x (List.mem_cons_of_mem _ hx);have e:applyE (u::us) L=applyE us (Cq L u):=rfl;rw[e];refine ⟨h4,?_,fun x=>?_⟩
  ·simp only[List.length_cons];omega
  ·have a:=h6 x;have b:=h3 x;simp only[List.length_cons];omega
theorem D2v (e:Int) (ap:Option Addr) (d:Int) (b:Option Nat):C9l [.int .i64 e,.pointer ap,.int .i64 d,.map b]:=by
 intro x hx y;simp only[List.mem_cons,List.not_mem_nil,or_false]at hx;rcases hx with rfl | rfl | rfl | rfl<;>(intro h;unfold v8 at h;first | cases h | (injection h with h;cases h))
theorem US.allOk {w:World} {B:Nat} {v:Value} {us:List UV} (h:US w B v us):∀u∈us,u.Ok:=by
 rcases h with ⟨rfl,_⟩ | ⟨g,tl,c,_,h2,_⟩
 ·intro u hu;cases hu
 ·exact h2.1
end
section
open Go.ChangeAt Go.ChangeShapes Go.WideShapes
section
variable {H : Type} {enc : TypeId × Value → H} {P : Program} {w : World} {base : Nat} {spare : Nat → Bool} {held : Bool}
theorem C8n {t ti tb:TypeId} {f0 f1 f2 f3 f4:Field} (ht:P.underlying t=some (.struct #[f0,f1,f2,f3,f4])) (e:[f0,f1,f2,f3,f4].map (fun f=>(f.type,f.offset))=[(ti,0),(ti,1),(ti,2),(tb,3),(tb,4)])
 (hi:P.underlying ti=some (.int .i64)) (hb:P.underlying tb=some .bool) (ci:P.cellsOf ti=1) (cb:P.cellsOf tb=1) (hct:P.cellsOf t=5) {fuel:Nat} {cs:List Value} {x:DataW H×List MemPlace}
 (hx:DataW.trod enc P w base spare held fuel t cs=some x):∃a:AV,cs=a.cells:=by
 obtain⟨xs,n,_,_,hl,aB,aA⟩:=DataW.trod_struct ht hx;simp only[List.map_cons,List.map_nil,List.cons.injEq,Prod.mk.injEq,and_true]at e;obtain⟨⟨a0,b0⟩,⟨a1,b1⟩,⟨a2,b2⟩,⟨a3,b3⟩,a4,b4⟩:=e;have g0:=aA 0 f0 rfl;have g1:=aA 1 f1 rfl;have g2:=aA 2 f2 rfl;have g3:=aA 3 f3 rfl;have g4:=aA 4 f4 rfl;have aC:xs.length=5:=aB;rw[hct]at hl;rw[a0,b0,ci,List.getElem?_eq_getElem (by omega)]at g0;rw[a1,b1,ci,List.getElem?_eq_getElem (by omega)]at g1;rw[a2,b2,ci,List.getElem?_eq_getElem (by omega)]at g2;rw[a3,b3,cb,List.getElem?_eq_getElem (by omega)]at g3;rw[a4,b4,cb,List.getElem?_eq_getElem (by omega)]at g4;obtain⟨n0,h0,_⟩:=DataW.trod_int hi g0;obtain⟨n1,h1,_⟩:=DataW.trod_int hi g1;obtain⟨n2,h2,_⟩:=DataW.trod_int hi g2;obtain⟨n3,h3,_⟩:=DataW.trod_bool hb g3;obtain⟨n4,h4,_⟩:=DataW.trod_bool hb g4;match cs,hl with
 | [c0,c1,c2,c3,c4],_=>
  simp at h0 h1 h2 h3 h4;subst h0 h1 h2 h3 h4;exact ⟨⟨n0,n1,n2,n3,n4⟩,rfl⟩
theorem B2c:∀l:List AV,(l.flatMap AV.cells).length=l.length*5
 | []=>rfl
 | a::l=>by rw[List.flatMap_cons,List.length_append,B2c l];simp[AV.cells];omega
theorem C4i {u t ti tb:TypeId} {f0 f1 f2 f3 f4:Field} (hu:P.underlying u=some (.slice t)) (ht:P.underlying t=some (.struct #[f0,f1,f2,f3,f4])) (e:[f0,f1,f2,f3,f4].map (fun f=>(f.type,f.offset))=[(ti,0),(ti,1),(ti,2),(tb,3),(tb,4)])
 (hi:P.underlying ti=some (.int .i64)) (hb:P.underlying tb=some .bool) (ci:P.cellsOf ti=1) (cb:P.cellsOf tb=1) (hct:P.cellsOf t=5) {fuel:Nat} {cs:List Value} {x:DataW H×List MemPlace}
 (hx:DataW.trod enc P w base spare held fuel u cs=some x):∃v l,cs=[v]∧As w w.heap.size v l:=by
 rcases Go.Deep.open_slice hu hx with ⟨hcs,_⟩ | ⟨a,len,cap,m,n,D,Pl,hcs,_,hl,hm,hmm,_,hii⟩
 ·exact ⟨_,[],hcs,none,0,rfl,Nat.le_refl _,by decide,.inl rfl⟩
 ·have aM:len≤m:=by rw[hmm];split<;>omega
  have aC:∀i,∃p:AV,i<len→∀j u,p.cells[j]?=some u→w.cell? (a.add (i*5+j))=some u:=by
   intro i;by_cases hil:i<len
   ·obtain⟨aN,aF,aJ⟩:=hii i (by omega);rw[hct]at aF;obtain⟨_,aK,aD⟩:=World.cells?_some aF;obtain⟨p,hp⟩:=C8n ht e hi hb ci cb hct aJ;refine ⟨p,fun _ j u hj=>?_⟩;have aE:j<5:=(List.getElem?_eq_some_iff.1 hj).1;have:=aD j aE;rw[D0c]at this;rw[this,hp,hj]
   ·exact ⟨⟨0,0,0,false,false⟩,fun h=>absurd h hil⟩
  obtain⟨f,hf⟩:=Classical.skolem.1 aC;have aG:((List.range len).map f).length=len:=by simp
  refine ⟨_,(List.range len).map f,hcs,some a,cap,by rw[aG],by omega,hm,?_⟩;rcases Nat.eq_zero_or_pos len with hz | hz
  ·subst hz;exact .inl rfl
  ·have aH:=hf 0 hz 0 _ rfl;have hs:a.spot=none:=World.cell?_spot (by simpa [Addr.add] using aH);have aA:a.block<w.heap.size:=block_lt_of_cell (by simpa [Addr.add] using aH);obtain⟨g,o,s⟩:=a;simp only at hs aA;subst hs;refine .inr ⟨g,o,rfl,Nat.zero_le _,aA,fun j u hj=>?_⟩;have aE:=(List.getElem?_eq_some_iff.1 hj).1;have aL:(((List.range len).map f).flatMap AV.cells).length=len*5:=by rw[B2c,aG]
   rw[aL]at aE;have aI:j / 5<len:=by omega
   have aD:=aat (l:=(List.range len).map f) (i:=j / 5) (a:=f (j / 5)) (by simp[aI]);have aB:(f (j / 5)).cells[j % 5]?=some u:=by rw[←aD];simp only[List.getElem?_take,List.getElem?_drop,if_pos (show j % 5<5 by omega)];rw[show j / 5*5+j % 5=j by omega];exact hj
   have:=hf (j / 5) aI (j % 5) u aB;rw[P9,show j / 5*5+j % 5=j by omega]at this;exact this
end
noncomputable def D1m (i:Nat):Field:=(Q5 Tryz.prog 78).getD i default
theorem acts_open {H:Type} {enc:TypeId×Value→H} {w:World} {base:Nat} {spare:Nat→Bool} {held:Bool} {r:Reach} {b0:Nat} {v:Value} {d:DataW H} {ps:List MemPlace} (hval:Value.okWide Tryz.prog w r b0 22 v)
 (h:DataW.Trod enc Tryz.prog w base spare held 22 v d ps):∃l,As w w.heap.size v l:=by
 obtain⟨aC,hf⟩:=h;obtain⟨v',l,hv,hp⟩:=C4i (f0:=D1m 0) (f1:=D1m 1) (f2:=D1m 2) (f3:=D1m 3) (f4:=D1m 4) (t:=78) (ti:=3) (tb:=4) Tryz.underlying22 (by kernel_rfl) (by kernel_rfl) Tryz.underlying3 Tryz.underlying4 (by kernel_rfl) (by kernel_rfl) (by kernel_rfl) hf;have aD:v=v':=by
  obtain⟨a0,aA,aB,e0⟩:=okWide_slice Tryz.underlying22 hval;rw[e0]at hv ⊢;have h1:[Value.slice a0 aA aB]=[v']:=hv;exact (List.cons.inj h1).1
 exact ⟨l,aD▸hp⟩
end
end Go.Proofs.YtmllnpokbbabhaaGreat
