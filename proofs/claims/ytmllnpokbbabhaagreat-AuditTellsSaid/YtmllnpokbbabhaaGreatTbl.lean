/- A part of the proof of AuditTells. -/
import Derived.Lib.BytesEntry
import Derived.Lib.Bytealg
import Derived.Test.YtmllnpokbbabhaaGreatTbk
set_option linter.unusedVariables false
set_option linter.unusedSimpArgs false
set_option maxRecDepth 100000
set_option maxHeartbeats 40000000
namespace Go.Proofs.YtmllnpokbbabhaaGreat
open Go Go.RowKit Sh
section
variable {P : Program} {l : List Oper} {Q : Exit → Act → World → Prop} {S : World → Prop} {w : World}
def B2g (di dj dm:Tmp) (l:List Value) (ds:List Deferred) (x y z:Value):Act:=⟨(((l.set di x).set dj y).set dm z).toArray,ds⟩
theorem C3e {di dj dm:Tmp} {l:List Value} {ds:List Deferred}:(⟨l.toArray,ds⟩:Act)=B2g di dj dm l ds (l.getD di undef) (l.getD dj undef) (l.getD dm undef):=by
 have h:∀d:Nat,l.set d (l.getD d undef)=l:=fun d=>by
  apply List.ext_getElem?;intro n;rw[List.getElem?_set];split
  ·rename_i e
   subst e;split
   ·rename_i h;simp[h]
   ·rename_i h;rw[List.getElem?_eq_none (by omega)]
  ·rfl
 unfold B2g;rw[h,h,h]
end
section
theorem D1q {rec:List Bool→List UInt8→Except Nat (Pt×List UInt8)} (hr:∀way b m,rec way b=.error m→m≠0) (way:List Bool) (b:List UInt8) (m:Nat) (h:rd1 rec way b=.error m):m≠0:=by
 cases b with
 | nil=>injection h with h;omega
 | cons k b=>
  simp only[rd1]at h;split at h
  ·cases h
  ·split at h
   ·split at h
    ·injection h with h;omega
    ·split at h
     ·cases h
     ·injection h with h;omega
   ·split at h
    ·split at h
     ·rename_i e he
      injection h with h;subst h;exact hr _ _ _ he
     ·split at h
      ·rename_i e he
       injection h with h;subst h;exact hr _ _ _ he
      ·split at h
       ·injection h with h;omega
       ·cases h
    ·split at h
     ·split at h
      ·injection h with h;omega
      ·cases h
     ·injection h with h;omega
theorem C8t:∀(f:Nat) (way:List Bool) (b:List UInt8) (m:Nat),rd f way b=.error m→m≠0
 | 0=>D1q fun _ _ m h=>by injection h with h;omega
 | f+1=>D1q (C8t f)
theorem Xe {l:List UInt8} {m:Nat} (h:Dm l=.error m):m≠0:=by
 unfold Dm at h;split at h
 ·rename_i n he
  injection h with h;subst h;exact C8t _ _ _ _ he
 ·cases h
 ·injection h with h;omega
theorem D8t (s:RS):(Zo s).length≤1048576:=by
 have h:byN s≤1048576:=Mh _ _;unfold Zo Nt;split
 ·rw[List.length_take];omega
 ·simp
theorem C2e:∀(n:Nat) (s:RS) (out:List G0),(∀q∈out,q.2.2.length≤1048576)→∀q∈(Nr n s out).1,q.2.2.length≤1048576
 | 0,_,_,h=>h
 | n+1,s,out,h=>by
  unfold Nr;split
  ·refine C2e n _ _ fun q hq=>?_;rcases List.mem_append.1 hq with hq | hq
   ·exact h q hq
   ·obtain rfl:=List.mem_singleton.1 hq;exact D8t _
  ·exact h
def UsK (w:World) (v:Value) (us:List UV):Prop:=US w w.heap.size v us∧Nx w v.ownBlock 69
theorem UsK.up {w w':World} {v:Value} {us:List UV} (h:UsK w v us) (hb:Below w.heap.size w w'):UsK w' v us:=⟨(h.1.below hb).more hb.size,h.2.up hb⟩
def B1y (w:World) (r:Gw) (q:Gr):Prop:=r.id=q.1∧q.1.length=32∧HsK w r.s.v q.2.1∧UsK w r.m.v q.2.2
def GosAre (w:World):List Gw→List Gr→Prop
 | [],[]=>True
 | r::R,q::L=>B1y w r q∧GosAre w R L
 | _,_=>False
def Xd (w:World) (v:Value) (gs:List Gr):Prop:=∃R,GosAre w R gs∧w.ownsRow 0 51 34 v gs.length (R.flatMap Gw.cells)
def D8b (w:World) (p:Pt) (gv:Value) (e:Int):Except Int (Pt×List Gr)→Prop
 | .error e'=>e=e'∧p=.e∧gv=.slice none 0 0
 | .ok (p',gs)=>e=0∧p=p'∧Xd w gv gs
theorem GosAre.map {w w':World} (f:∀ {v:Value} {ks:List (List UInt8)},HsK w v ks→HsK w' v ks) (f2:∀ {v:Value} {us:List UV},UsK w v us→UsK w' v us):∀ {R:List Gw} {L:List Gr},GosAre w R L→GosAre w' R L
 | [],[],_=>trivial
 | _::_,_::_,h=>⟨⟨h.1.1,h.1.2.1,f h.1.2.2.1,f2 h.1.2.2.2⟩,GosAre.map f f2 h.2⟩
 | [],_::_,h=>h.elim
 | _::_,[],h=>h.elim
theorem GosAre.snoc {w:World} {r:Gw} {q:Gr}:∀ {R:List Gw} {L:List Gr},GosAre w R L→B1y w r q→GosAre w (R++[r]) (L++[q])
 | [],[],_,h=>⟨h,trivial⟩
 | _::_,_::_,h,k=>⟨h.1,GosAre.snoc h.2 k⟩
 | [],_::_,h,_=>h.elim
 | _::_,[],h,_=>h.elim
theorem GosAre.cells {w:World}:∀ {R:List Gw} {L:List Gr},GosAre w R L→(R.flatMap Gw.cells).length=L.length*34
 | [],[],_=>rfl
 | r::R,q::L,h=>by
  rw[List.flatMap_cons,List.length_append,GosAre.cells h.2,Gw.len (by rw[h.1.1];exact h.1.2.1),List.length_cons];omega
 | [],_::_,h=>h.elim
 | _::_,[],h=>h.elim
structure MoI (w wr : World) (g gp : Nat) (p : Pt) (ov bv : Value) (G : List G0) (gs : List Gr) (G2 : List G0) : Prop where
 part:Bk wr gp 95 [p.val]
 out:∃R1 R2,GosAre wr R1 gs∧GwsAre wr R2 G2∧wr.ownsRow (g+1) 51 34 ov G.length ((R1++R2).flatMap Gw.cells)
 bat:∃vs,BysAre wr vs G∧wr.ownsRow (g+1) 38 1 bv G.length vs
 below:Below w.heap.size w wr
 split:∃G1,G=G1++G2∧G1.length=gs.length
 hg:w.heap.size≤g
section
variable {w wr w' : World} {g gp : Nat} {p : Pt} {ov bv : Value} {G G2 : List G0} {gs : List Gr}
theorem MoI.start {gb:Nat} {pv:Value} {pl:List UInt8} {s:RS} (h:ApO w wr g gb pv ov bv pl G G s) (hp:Bk wr gp 95 [p.val]):MoI w wr g gp p ov bv G [] G:=by
 obtain⟨R,h1,h2⟩:=h.out;exact ⟨hp,⟨[],R,trivial,h1,h2⟩,h.bat,h.below,⟨[],rfl,rfl⟩,h.hg⟩
theorem MoI.up (h:MoI w wr g gp p ov bv G gs G2) (hb:Below wr.heap.size wr w'):MoI w w' g gp p ov bv G gs G2:=by
 obtain⟨R1,R2,h1,h2,h5⟩:=h.out;obtain⟨vs,h3,h4⟩:=h.bat;exact ⟨h.part.below hb h.part.lt,⟨R1,R2,h1.map (fun x=>x.up hb) (fun x=>x.up hb),h2.map fun x=>x.up hb,J7 h5 hb (Nat.le_refl _)⟩,⟨vs,h3.map fun x=>x.up hb,J7 h4 hb (Nat.le_refl _)⟩,C3 h.below hb h.below.size,h.split,h.hg⟩
theorem BysAre.at_:∀ {R:List Value} {A:List G0} {q:G0} {B:List G0},BysAre w R (A++q::B)→∃v,R[A.length]?=some v∧ByT w v q.2.2
 | v::_,[],_,_,h=>⟨v,rfl,h.1⟩
 | [],[],_,_,h=>h.elim
 | _::R,_::A,q,B,h=>by
  obtain⟨v,h1,h2⟩:=BysAre.at_ (R:=R) (A:=A) h.2;exact ⟨v,by simpa using h1,h2⟩
 | [],_::_,_,_,h=>h.elim
theorem MoI.len (h:MoI w wr g gp p ov bv G gs G2):G.length=gs.length+G2.length:=by
 obtain⟨G1,h1,h2⟩:=h.split;rw[h1,List.length_append,h2]
theorem MoI.next {q:G0} {G3:List G0} (h:MoI w wr g gp p ov bv G gs (q::G3)):∃b c A c',bv=.slice (some ⟨b,0,none⟩) G.length c∧wr.cell? ⟨b,gs.length,none⟩=some (.slice A q.2.2.length c')∧By wr 0 wr.heap.size (.slice A q.2.2.length c') q.2.2:=by
 obtain⟨vs,h3,h4⟩:=h.bat;obtain⟨G1,h1,h2⟩:=h.split;have hl:=h.len;obtain⟨b,c,rfl⟩:∃b c,bv=.slice (some ⟨b,0,none⟩) G.length c:=by
  rcases h4.2 with ⟨_,h⟩ | ⟨b,c,_,h,_⟩
  ·simp at hl;omega
  ·exact ⟨b,c,h⟩
 rw[h1]at h3;obtain⟨v,hv,hb⟩:=BysAre.at_ h3;obtain⟨A,c',e,_⟩:=hb.1;rw[List.length_map]at e;refine ⟨b,c,A,c',rfl,?_,by rw[←e];exact hb.1⟩;rw[h4.cellAt gs.length (by simp at hl;omega),←h2,hv,e]
theorem MoI.row {q:G0} {G3:List G0} (h:MoI w wr g gp p ov bv G gs (q::G3)):∃b c,ov=.slice (some ⟨b,0,none⟩) G.length c∧wr.cell? ⟨b,gs.length*34+33,none⟩=some (.slice none 0 0)∧wr.frozen? ⟨b,gs.length*34+33,none⟩=false:=by
 obtain⟨R1,R2,h1,h2,h5⟩:=h.out;have hl:=h.len;obtain⟨b,c,rfl⟩:∃b c,ov=.slice (some ⟨b,0,none⟩) G.length c:=by
  rcases h5.2 with ⟨_,h⟩ | ⟨b,c,_,h,_⟩
  ·simp at hl;omega
  ·exact ⟨b,c,h⟩
 refine ⟨b,c,rfl,?_,h5.frozenAt _⟩;rw[h5.cellAt _ (by simp at hl;omega)];cases R2 with
 | nil=>exact h2.elim
 | cons r R3=>
  obtain⟨⟨e1,e2,_,e4⟩,_⟩:=h2;have hr:(c8 r.id).length=32:=by simp[e1,e2]
  rw[List.flatMap_append,List.getElem?_append_right (by rw[h1.cells];omega),h1.cells,List.flatMap_cons,Gw.cells,e4];rw[show gs.length*34+33-gs.length*34=33 by omega,List.append_assoc,List.getElem?_append_right (by rw[hr];omega),hr];rfl
theorem Gw.setM {r:Gw} (hr:r.id.length=32) (m:Sv) (tl:List Value):(r.cells++tl).set 33 m.v=Gw.cells { r with m:=m }++tl:=by
 have aA:(c8 r.id).length=32:=by simp[hr]
 unfold Gw.cells;rw[List.append_assoc,List.append_assoc,List.set_append_right _ _ (by rw[aA];omega),aA];rfl
theorem MoI.more {q:G0} {G3:List G0} (h:MoI w wr g gp p ov bv G gs (q::G3)) {b c:Nat} (ho:ov=.slice (some ⟨b,0,none⟩) G.length c) {us:List UV} {A:Option Addr} {n c':Nat} {B:Nat} (hu:OwnU wr B (.slice A n c') us) :
 MoI w (wr.setCell ⟨b,gs.length*34+33,none⟩ (.slice A n c')) g gp p ov bv G (gs++[(q.1,q.2.1,us)]) G3:=by
 obtain⟨R1,R2,h1,h2,h5⟩:=h.out;obtain⟨vs,h3,h4⟩:=h.bat;obtain⟨G1,e1,e2⟩:=h.split;cases R2 with
 | nil=>exact h2.elim
 | cons r R3=>
  obtain⟨hr,h2⟩:=h2;have hk:=Be h5;have aA:=H6 h4 h5 (by decide);have aB:w.heap.size≤b:=by have:=(h5.lt b (by rw[ho];rfl)).1;have:=h.hg;omega
  subst ho;obtain⟨h6,h7⟩:=h5.stored (gs.length*34+33) (.slice A n c');have aC:UsK wr (.slice A n c') us:=⟨hu.us,Be hu.2⟩;have f1:∀ {v:Value} {ks:List (List UInt8)},HsK wr v ks→HsK (wr.setCell ⟨b,gs.length*34+33,none⟩ (.slice A n c')) v ks:=fun x=>x.grown h7 hk (by decide);have f2:∀ {v:Value} {ks:List UV},UsK wr v ks→UsK (wr.setCell ⟨b,gs.length*34+33,none⟩ (.slice A n c')) v ks:=fun x=>⟨(x.1.grown h5 (by decide) h7).more h7.size,x.2.grown h7 hk (by decide)⟩;refine ⟨h.part.grown h7 (hk.ne (Gp h.part) (by decide)),⟨R1++[{ r with m:=⟨A,n,c'⟩ }],R3,(h1.map f1 f2).snoc (r:={ r with m:=⟨A,n,c'⟩ }) (q:=(q.1,q.2.1,us)) ⟨hr.1,hr.2.1,f1 hr.2.2.1,f2 aC⟩,h2.map f1,?_⟩,⟨vs,h3.map fun x=>x.grown h7 hk (by decide),World.ownsRow.kept h4 h7 aA⟩,?_,⟨G1++[q],by rw[e1];simp,by simp[e2]⟩,h.hg⟩
  ·have e:((R1++r::R3).flatMap Gw.cells).set (gs.length*34+33) (.slice A n c')=(R1++[{ r with m:=⟨A,n,c'⟩ }]++R3).flatMap Gw.cells:=by rw[List.flatMap_append,List.set_append_right _ _ (by rw[h1.cells];omega),h1.cells,List.flatMap_cons,show gs.length*34+33-gs.length*34=33 by omega];have:=Gw.setM (r:=r) (by rw[hr.1];exact hr.2.1) ⟨A,n,c'⟩ (R3.flatMap Gw.cells);unfold Sv.v at this;rw[this];simp
   rw[e]at h6;exact h6
  ·exact h.below.grown h7 h.below.size (fun k e=>by cases e;exact aB)
theorem MoI.fin (h:MoI w wr g gp p ov bv G gs []):Xd wr ov gs:=by
 obtain⟨R1,R2,h1,h2,h5⟩:=h.out;have hl:=h.len;cases R2 with
 | nil=>exact ⟨R1,h1,by rw[List.append_nil]at h5;rw[show gs.length=G.length by simpa using hl.symm];exact Eo h5 (Nat.zero_le _)⟩
 | cons r R3=>exact h2.elim
theorem US.ty {W W':World} {row:Option Nat} {T:TypeId} {B:Nat} {v:Value} {us:List UV} (h:US W B v us) (hg:W.grownBy W' row) (hk:Nx W row T) (hT:69≠T):US W' B v us:=by
 rcases h with h | ⟨g,tl,c,h1,h2,h3⟩
 ·exact .inl h
 ·exact .inr ⟨g,tl,c,h1,⟨h2.1,h2.2.grown hg (hk.ne (Gp h2.2) hT)⟩,h3⟩
theorem UsK.grown {W W':World} {row:Option Nat} {T:TypeId} {v:Value} {us:List UV} (h:UsK W v us) (hg:W.grownBy W' row) (hk:Nx W row T) (hT:69≠T):UsK W' v us:=⟨(h.1.ty hg hk hT).more hg.size,h.2.grown hg hk hT⟩
theorem Xd.grown {W W':World} {row:Option Nat} {T:TypeId} {v:Value} {gs:List Gr} (h:Xd W v gs) (hg:W.grownBy W' row) (hk:Nx W row T) (h1:40≠T) (h2:69≠T) (h3:51≠T):Xd W' v gs:=by
 obtain⟨R,q1,q2⟩:=h;refine ⟨R,q1.map (fun x=>x.grown hg hk h1) (fun x=>x.grown hg hk h2),World.ownsRow.kept q2 hg ?_⟩;cases hv:v.ownBlock with
 | none=>exact .inl rfl
 | some b=>
  refine .inr ?_;have:=Be q2;rw[hv]at this;exact hk.ne this h3
end
end
theorem B9o {P:Program} {l:List Oper} {Q:Exit→Act→World→Prop} {S:World→Prop} {w:World} {done:List Nat} (di dj dm:Tmp) {ls:List Value} {ds:List Deferred}
 (h:P5 P l Q S done (B2g di dj dm ls ds (ls.getD di undef) (ls.getD dj undef) (ls.getD dm undef)) w):P5 P l Q S done ⟨ls.toArray,ds⟩ w:=by
 rw[C3e (di:=di) (dj:=dj) (dm:=dm)];exact h
theorem ApO.outLt {w wr:World} {g gb:Nat} {pv ov bv:Value} {pl:List UInt8} {G G':List G0} {s:RS} (h:ApO w wr g gb pv ov bv pl G G' s):∀k,ov.ownBlock=some k→k<wr.heap.size:=fun k hk=>by
 obtain⟨R,_,ho⟩:=h.out;exact (ho.lt k hk).2
structure ApK (W1 wr : World) (g gg : Nat) (id : List UInt8) (v : Value) (ks : List (List UInt8)) (s : RS) : Prop where
 gr:W1.grownBy wr (some g)
 rd:WRd wr g s
 bx:∃A c,v=.slice A ks.length c∧Bk wr gg 51 (Gw.cells ⟨id,⟨A,ks.length,c⟩,⟨none,0,0⟩⟩)
 own:OwnK wr (gg+1) v ks
 nl:ks=[]→v=.slice none 0 0
theorem ApK.up {W1 wr w':World} {g gg:Nat} {id:List UInt8} {v:Value} {ks:List (List UInt8)} {s:RS} (h:ApK W1 wr g gg id v ks s) (hb:Below wr.heap.size wr w'):ApK W1 w' g gg id v ks s:=by
 obtain⟨A,c,h1,h2⟩:=h.bx;exact ⟨h.gr.trans (E5 hb g),h.rd.up hb,⟨A,c,h1,h2.bl hb⟩,h.own.below hb (Nat.le_refl _),h.nl⟩
theorem ApK.tk {W1 wr w':World} {g gg:Nat} {id:List UInt8} {v:Value} {ks:List (List UInt8)} {s s':RS} (h:ApK W1 wr g gg id v ks s) (hT:TkR wr w' g s') (hg:g<gg):ApK W1 w' g gg id v ks s':=by
 obtain⟨A,c,h1,h2⟩:=h.bx;refine ⟨h.gr.trans hT.gr,hT.rd,⟨A,c,h1,h2.grown hT.gr (by simp;omega)⟩,⟨h.own.1,World.ownsRow.kept h.own.2 hT.gr ?_⟩,h.nl⟩;cases hv:v.ownBlock with
 | none=>exact .inl rfl
 | some k=>
  refine .inr fun e=>?_;injection e with e;have:=(h.own.2.lt k hv).1;omega
theorem B0j {a b c:World} {g B:Nat} (h:a.grownBy b (some g)) (hb:Below B b c) (hB:a.heap.size≤B):a.grownBy c (some g):=
 ⟨hb.os.trans h.os,hb.tape.trans h.tape,hb.output.trans h.output,Nat.le_trans h.size hb.size,fun k hk hne=>(hb.block k (by omega)).trans (h.block k hk hne)⟩
theorem Gw.set32 {id:List UInt8} (hi:id.length=32) (s s' m:Sv):(Gw.cells ⟨id,s,m⟩).set 32 s'.v=Gw.cells ⟨id,s',m⟩:=by
 unfold Gw.cells;rw[List.set_append_right _ _ (by simp[hi])];simp[hi]
theorem ApK.app {W1 W w8:World} {g gg:Nat} {id:List UInt8} {A A':Option Addr} {c c':Nat} {ks:List (List UInt8)} {k:List UInt8} {s:RS} (h:ApK W1 W g gg id (.slice A ks.length c) ks s) (hT:Bk W gg 51 (Gw.cells ⟨id,⟨A,ks.length,c⟩,⟨none,0,0⟩⟩)) (hi:id.length=32) (hk:k.length=32) (hg:g<gg) (hgg:W1.heap.size≤gg)
 (ho:w8.ownsRow (gg+1) 40 32 (.slice A' (ks.length+1) c') (ks.length+1) (c8 ks.flatten++c8 k)) (hb:Below (gg+1) W w8) :
 ApK W1 (w8.setCell ⟨gg,32,none⟩ (.slice A' (ks.length+1) c')) g gg id (.slice A' (ks.length+1) c') (ks++[k]) s:=by
 have aA:=hT.below hb (Nat.lt_succ_self _);have e:c8 (ks++[k]).flatten=c8 ks.flatten++c8 k:=by simp[c8]
 have hl:(ks++[k]).length=ks.length+1:=by simp
 refine ⟨T8 (B0j h.gr hb (by omega)) hgg 32 [_],(h.rd.below hb (by omega)).putFar (a:=⟨gg,32,none⟩) hg [_],⟨A',c',by rw[hl],?_⟩,⟨fun q hq=>?_,?_⟩,fun e=>by simp at e⟩
 ·rw[hl];have:=aA.set_ 32 (.slice A' (ks.length+1) c');have e2:=Gw.set32 hi ⟨A,ks.length,c⟩ ⟨A',ks.length+1,c'⟩ ⟨none,0,0⟩;unfold Sv.v at e2;rw[e2]at this;exact this
 ·rcases List.mem_append.1 hq with hq | hq
  ·exact h.own.1 q hq
  ·simp at hq;subst hq;exact hk
 ·rw[hl,e];refine World.ownsRow.kept ho (S4 w8 gg 32 [_]) ?_;cases hv:(Value.slice A' (ks.length+1) c').ownBlock with
  | none=>exact .inl rfl
  | some b=>
   refine .inr fun e=>?_;injection e with e;have:=(ho.lt b hv).1;omega
theorem A3m (v:Value) (l:List UInt8) (w:World) (hv:By w 0 w.heap.size v l) (hn:l.length≤1099511627776) :
 Calls Tryz.prog 39 #[v] w fun x w'=>∃p gv e,x=.returned (.tuple #[.agg #[Pt.val p],gv,.int .i64 e])∧D8b w' p gv e (Dt l)∧Below w.heap.size w w':=by
 obtain⟨W0,bU⟩:=D9 (w.alloc (Obj.cells #[.nilIface] 95));have B0:=BA' bU;have R0:Bk W0 w.heap.size 95 [.nilIface]:=by rw[bU];exact Bk.new w _ [_]
 have cX:=hv.up B0;obtain⟨F,hF⟩:=D9 (Nr (Ji (rbS (l,0))) (Lf (rbS (l,0))) []);have HF:=Lib.hid hF;have HL:Hid (∀q∈F.1,q.2.2.length≤1048576):=Lib.hid (by rw[hF];exact C2e _ _ _ (by simp));have HP:Hid (Dt l=if Nj F.2=0 then (match Dm (Zo (l,0)) with
  | .error m=>.error (m:Int)
  | .ok p=>match Ey F.1 [] with
   | .error e=>.error e
   | .ok gs=>.ok (p,gs)) else .error (Nj F.2)):=Lib.hid (by rw[hF];rfl)
 obtain⟨pa,bX⟩:=D9 (Dt l);rw[←bX]at HP ⊢;clear hF hv bX;go_enter Tryz.func39,Tryz.ntmps39;go_wp2_with fail;rw[←bU];clear bU;refine (A6z v l W0 cX hn).mono ?_;rintro x w1 ⟨g,rfl,hg,cC,b1⟩;obtain⟨w2,bD⟩:=D9 (w1.alloc (Obj.cells #[.pointer (some ⟨g,0,none⟩)] 147));have cD:=KN' bD;have b2:=BA' bD;have bE:=cC.up b2;have B2:=X4 b1 b2;have eT:g<w1.heap.size:=cC.lt;have cY:w2.cell? ⟨w1.heap.size,0,none⟩=some (.pointer (some ⟨g,0,none⟩)):=cD.at_ rfl;rw[bD]at cY;clear cC b1 b2;go_wp2_with fail;rw[←bD];clear cY bD;generalize w1.heap.size=gb at *;refine (Qf g (l,0) w2 bE).mono ?_;rintro x w3 ⟨pv,rfl,hp,cZ,bY⟩;have I3:ApO W0 w3 g gb pv (.slice none 0 0) (.slice none 0 0) (Zo (l,0)) [] [] (rbS (l,0)):=
  ⟨bY.rd,cD.grown bY.gr (by simp;omega),⟨By.less hp (Nat.zero_le _),cZ⟩,⟨[],trivial,World.ownsRow_nil _ _ _ _⟩,⟨[],trivial,World.ownsRow_nil _ _ _ _⟩,B2.grown bY.gr B2.size (fun k e=>by cases e;exact hg),hg⟩
 have dW:w3.cell? ⟨gb,0,none⟩=some (.pointer (some ⟨g,0,none⟩)):=I3.box.at_ rfl;clear bY hp cZ cD bE B2;go_wp2_with fail;refine (Tw g (rbS (l,0)) w3 I3.rd).mono ?_;rintro x w4 ⟨rfl,dC⟩;have I4:=I3.tk dC;have dD:Ji (rbS (l,0))≤65536:=Mh _ _;obtain⟨m0,cE⟩:=D9 (Ji (rbS (l,0)));obtain⟨s0,cF⟩:=D9 (Lf (rbS (l,0)));have dF:Hid (F=Nr m0 s0 []):=Lib.hid (by rw[HF.out,cE,cF]);obtain⟨pl,cG⟩:=D9 (Zo (l,0));rw[←cF,←cG]at I4;rw[←cE]at dD ⊢;have dG:=Lib.hid cG;clear dC cE cF HF I3 dW cG cX;go_wp2_with fail;go_loopw [7,8,10] (fun ov bv nv wr=>∃(m:Nat) (G:List G0) (s:RS),nv=.int .i64 (m:Int)∧ApO W0 wr g gb pv ov bv pl G G s∧Hid (F=Nr m s G)∧G.length+m≤65536) (fun _ _ nv _=>(intOf nv).toNat)
 case atStart=>exact ⟨m0,[],s0,rfl,I4,dF,by simpa using dD⟩
 case round=>
  clear I4 dF;obtain⟨m,G,s,rfl,I,bZ,dX⟩:=hrel;have cb:wr.cell? ⟨gb,0,none⟩=some (.pointer (some ⟨g,0,none⟩)):=I.box.at_ rfl;rcases Nat.eq_zero_or_pos m with hm | hm
  ·subst hm;have bF:F=(G,s):=bZ.out;go_wp2_with fail;refine (Ac g s wr I.rd).mono ?_;rintro x wz ⟨rfl,hx⟩;rw[hx];clear hx wz;have HX:=HP.out;rw[bF]at HX;simp only at HX;have k2:=R0.below I.below R0.lt;by_cases hz:Nj s=0
   ·rw[if_pos hz]at HX;have aN:(Nj s==0)=true:=by rw[hz];rfl
    rw[hz];clear hz;go_wp2_with fail;refine (A6a pv pl wr I.part.1).mono ?_;rintro x w8 ⟨pt,pn,rfl,aO,b8⟩;have I8:=I.up b8;have k8:=k2.bl b8;rw[←dG.out]at HX;clear b8 I k2;cases aF:Dm pl with
    | error m=>
     rw[aF]at HX aO;obtain⟨rfl,rfl⟩:=aO;simp only at HX;subst HX;have cH:m≠0:=Xe aF;have dY:((m:Int) != 0)=true:=by rw[bne_iff_ne];omega
     have k9:Bk (w8.alloc (Obj.cells #[Value.nilIface] 95)) w.heap.size 95 [.nilIface]:=k8.alloc _;have p0:(w8.alloc (Obj.cells #[Value.nilIface] 95)).cell? ⟨w.heap.size,0,none⟩=some .nilIface:=k9.at_ rfl;have pf:=k9.frozen 0;have pe:Pt.e.val=Value.nilIface:=rfl;rw[pe];clear cH aF k8 aN;go_wp2_with fail;exact bodyPost_ret (H8 rfl (C5.row (k9.set_ 0 .nilIface) rfl _ Tryz.underlying95 rfl (by kernel_rfl)) (C5.tmp rfl) (C5.tmp rfl)) rfl ⟨.e,_,_,rfl,⟨rfl,rfl,rfl⟩,((C3 B0 I8.below B0.size).alloc (Nat.le_trans B0.size I8.below.size) _).setCell (Nat.le_refl _) _⟩
    | ok pq=>
     rw[aF]at HX aO;obtain⟨rfl,rfl⟩:=aO;simp only at HX;obtain⟨Mo,aR⟩:=D9 (Ey G []);rw[←aR]at HX;replace HX:=Lib.hid HX;have HM:=Lib.hid aR;have HG:Hid (∀q∈G,q.2.2.length≤1048576):=Lib.hid (by have:=HL.out;rw[bF]at this;exact this);clear aR;obtain⟨wb,aP⟩:=D9 (w8.alloc (Obj.cells #[pt.val] 95));have bb:=BA' aP;have kp:=KN' aP;have M:=MoI.start (I8.up bb) kp;obtain⟨_,_,bG⟩:=I8.out;obtain⟨Ao,co,rfl,-,-⟩:=F8 bG;obtain⟨_,_,bH⟩:=I8.bat;obtain⟨Ab,cb8,rfl,-,-⟩:=F8 bH;clear aF k8 aN bb kp bG bH I8;go_wp2_with fail;rw[←aP];clear aP;generalize w8.heap.size=gp at *;go_loopw [78] (fun jv wr=>∃(gs:List Gr) (G2:List G0),jv=.int .i64 (gs.length:Int)∧MoI W0 wr g gp pt (.slice Ao G.length co) (.slice Ab G.length cb8) G gs G2∧Hid (Mo=Ey G2 gs)) (fun jv _=>G.length-(intOf jv).toNat)
     case atStart=>exact ⟨[],G,rfl,M,HM⟩
     case round=>
      clear M HM;obtain⟨gs,G2,rfl,M,HM⟩:=hrel;have k2:=R0.below M.below R0.lt;cases G2 with
      | nil=>
       have cI:decide (gs.length<G.length)=false:=decide_eq_false (by have:=M.len;simp at this;omega);have p0:wr.cell? ⟨w.heap.size,0,none⟩=some .nilIface:=k2.at_ rfl;have pf:=k2.frozen 0;have c0:wr.cell? ⟨gp,0,none⟩=some pt.val:=M.part.at_ rfl;have aS:Hid (pa=.ok (pt,gs)):=Lib.hid (by rw[HX.out,HM.out];rfl);have MF:=M.fin;go_wp2_with fail;exact bodyPost_ret (H8 rfl (C5.row (k2.set_ 0 pt.val) rfl _ Tryz.underlying95 rfl (by kernel_rfl)) (C5.tmp rfl) (C5.tmp rfl)) rfl ⟨pt,_,_,rfl,by rw[aS.out];exact ⟨rfl,rfl,MF.grown (S4 wr w.heap.size 0 [_]) (Gp k2) (by decide) (by decide) (by decide)⟩,(C3 B0 M.below B0.size).setCell (Nat.le_refl _) _⟩
      | cons q G3=>
       have cI:=decide_eq_true (by have:=M.len;simp at this;omega);obtain⟨bq,cq,Aq,c',eq,cJ,bI⟩:=M.next;obtain⟨br,cr,er,-,-⟩:=M.row;injection eq with eq1 eq2 eq3;injection er with er1 er2 er3;subst eq1 er1 eq3 er3;have cK:q.2.2.length≤1099511627776:=by obtain⟨G1,h1,-⟩:=M.split;have:=HG.out q (by rw[h1];simp);omega
       have cA:gs.length<G.length:=by have:=M.len;simp at this;omega
       go_wp2_with fail;refine (A3v _ q.2.2 wr bI cK).mono ?_;rintro x w9 ⟨u,rfl,hu,b9⟩;have M9:=M.up b9;have k9:=k2.bl b9;obtain⟨us,en,bJ⟩:∃us en,Fm q.2.2=(us,en):=⟨_,_,rfl⟩;have aC:=HM.out;unfold Ey at aC;rw[bJ]at hu aC ⊢;simp only at hu aC ⊢;obtain⟨Au,cu,rfl,-,-⟩:=F8 hu.2;obtain⟨dZ,eA,cL,eB,eC⟩:=M9.row;injection cL with er1' er2' er3';injection er1' with er1';injection er1' with er1';subst er1' er3';have MF:=M9.more rfl hu;clear bJ M9 hu HM M k2 b9 bI cJ;by_cases hen:en=0
       ·rw[if_pos hen]at aC;subst hen;have cM:=Lib.hid aC;clear aC;go_wp2_with fail;go_roundw;case rel=>exact ⟨gs++[(q.1,q.2.1,us)],G3,by simp,MF,cM⟩
        case measure=>simp[intOf];omega
       ·rw[if_neg hen]at aC;have eD:(en != 0)=true:=by rw[bne_iff_ne];exact hen
        have aS:pa=.error en:=by rw[HX.out,aC]
        clear hen aC HX HP;subst aS;have aT:=R0.below MF.below R0.lt;have p0:=aT.at_ (i:=0) rfl;have pf:=aT.frozen 0;go_wp2_with fail;exact bodyPost_ret (H8 rfl (C5.row (aT.set_ 0 .nilIface) rfl _ Tryz.underlying95 rfl (by kernel_rfl)) (C5.tmp rfl) (C5.tmp rfl)) rfl ⟨.e,_,_,rfl,⟨rfl,rfl,rfl⟩,(C3 B0 MF.below B0.size).setCell (Nat.le_refl _) _⟩
   ·rw[if_neg hz]at HX;have aN:=beq_eq_false_iff_ne.2 hz;clear hz;subst HX;have eE:(Nj s != 0)=true:=by rw[bne,aN];rfl
    have p0:wr.cell? ⟨w.heap.size,0,none⟩=some .nilIface:=k2.at_ rfl;have pf:=k2.frozen 0;go_wp2_with fail;exact bodyPost_ret (H8 rfl (C5.row (k2.set_ 0 .nilIface) rfl _ Tryz.underlying95 rfl (by kernel_rfl)) (C5.tmp rfl) (C5.tmp rfl)) rfl ⟨.e,_,_,rfl,⟨rfl,rfl,rfl⟩,(C3 B0 I.below B0.size).setCell (Nat.le_refl _) _⟩
  ·obtain⟨m',rfl⟩:∃m',m=m'+1:=⟨m-1,by omega⟩;have hd:decide ((0:Int)<((m'+1:Nat):Int))=true:=decide_eq_true (by omega);have eU:decide (0<m'+1)=true:=decide_eq_true (by omega);go_wp2_with fail;refine (B3h gb g s wr I.box I.rd).mono ?_;rintro x wx ⟨rfl,hx⟩;rw[hx];clear hx wx;cases hw:Iz s with
   | false=>
    have bF:F=(G,s):=by have:=bZ.out;unfold Nr at this;rw[if_neg (by rw[hw];decide)]at this;exact this
    go_wp2_with fail;refine (Ac g s wr I.rd).mono ?_;rintro x wz ⟨rfl,hx⟩;rw[hx];clear hx wz;have HX:=HP.out;rw[bF]at HX;simp only at HX;have k2:=R0.below I.below R0.lt;by_cases hz:Nj s=0
    ·rw[if_pos hz]at HX;have aN:(Nj s==0)=true:=by rw[hz];rfl
     rw[hz];clear hz;go_wp2_with fail;refine (A6a pv pl wr I.part.1).mono ?_;rintro x w8 ⟨pt,pn,rfl,aO,b8⟩;have I8:=I.up b8;have k8:=k2.bl b8;rw[←dG.out]at HX;clear b8 I k2;cases aF:Dm pl with
     | error m=>
      rw[aF]at HX aO;obtain⟨rfl,rfl⟩:=aO;simp only at HX;subst HX;have cH:m≠0:=Xe aF;have dY:((m:Int) != 0)=true:=by rw[bne_iff_ne];omega
      have k9:Bk (w8.alloc (Obj.cells #[Value.nilIface] 95)) w.heap.size 95 [.nilIface]:=k8.alloc _;have p0:(w8.alloc (Obj.cells #[Value.nilIface] 95)).cell? ⟨w.heap.size,0,none⟩=some .nilIface:=k9.at_ rfl;have pf:=k9.frozen 0;have pe:Pt.e.val=Value.nilIface:=rfl;rw[pe];clear cH aF k8 aN;go_wp2_with fail;exact bodyPost_ret (H8 rfl (C5.row (k9.set_ 0 .nilIface) rfl _ Tryz.underlying95 rfl (by kernel_rfl)) (C5.tmp rfl) (C5.tmp rfl)) rfl ⟨.e,_,_,rfl,⟨rfl,rfl,rfl⟩,((C3 B0 I8.below B0.size).alloc (Nat.le_trans B0.size I8.below.size) _).setCell (Nat.le_refl _) _⟩
     | ok pq=>
      rw[aF]at HX aO;obtain⟨rfl,rfl⟩:=aO;simp only at HX;obtain⟨Mo,aR⟩:=D9 (Ey G []);rw[←aR]at HX;replace HX:=Lib.hid HX;have HM:=Lib.hid aR;have HG:Hid (∀q∈G,q.2.2.length≤1048576):=Lib.hid (by have:=HL.out;rw[bF]at this;exact this);clear aR;obtain⟨wb,aP⟩:=D9 (w8.alloc (Obj.cells #[pt.val] 95));have bb:=BA' aP;have kp:=KN' aP;have M:=MoI.start (I8.up bb) kp;obtain⟨_,_,bG⟩:=I8.out;obtain⟨Ao,co,rfl,-,-⟩:=F8 bG;obtain⟨_,_,bH⟩:=I8.bat;obtain⟨Ab,cb8,rfl,-,-⟩:=F8 bH;clear aF k8 aN bb kp bG bH I8;go_wp2_with fail;rw[←aP];clear aP;generalize w8.heap.size=gp at *;go_loopw [78] (fun jv wr=>∃(gs:List Gr) (G2:List G0),jv=.int .i64 (gs.length:Int)∧MoI W0 wr g gp pt (.slice Ao G.length co) (.slice Ab G.length cb8) G gs G2∧Hid (Mo=Ey G2 gs)) (fun jv _=>G.length-(intOf jv).toNat)
      case atStart=>exact ⟨[],G,rfl,M,HM⟩
      case round=>
       clear M HM;obtain⟨gs,G2,rfl,M,HM⟩:=hrel;have k2:=R0.below M.below R0.lt;cases G2 with
       | nil=>
        have cI:decide (gs.length<G.length)=false:=decide_eq_false (by have:=M.len;simp at this;omega);have p0:wr.cell? ⟨w.heap.size,0,none⟩=some .nilIface:=k2.at_ rfl;have pf:=k2.frozen 0;have c0:wr.cell? ⟨gp,0,none⟩=some pt.val:=M.part.at_ rfl;have aS:Hid (pa=.ok (pt,gs)):=Lib.hid (by rw[HX.out,HM.out];rfl);have MF:=M.fin;go_wp2_with fail;exact bodyPost_ret (H8 rfl (C5.row (k2.set_ 0 pt.val) rfl _ Tryz.underlying95 rfl (by kernel_rfl)) (C5.tmp rfl) (C5.tmp rfl)) rfl ⟨pt,_,_,rfl,by rw[aS.out];exact ⟨rfl,rfl,MF.grown (S4 wr w.heap.size 0 [_]) (Gp k2) (by decide) (by decide) (by decide)⟩,(C3 B0 M.below B0.size).setCell (Nat.le_refl _) _⟩
       | cons q G3=>
        have cI:=decide_eq_true (by have:=M.len;simp at this;omega);obtain⟨bq,cq,Aq,c',eq,cJ,bI⟩:=M.next;obtain⟨br,cr,er,-,-⟩:=M.row;injection eq with eq1 eq2 eq3;injection er with er1 er2 er3;subst eq1 er1 eq3 er3;have cK:q.2.2.length≤1099511627776:=by obtain⟨G1,h1,-⟩:=M.split;have:=HG.out q (by rw[h1];simp);omega
        have cA:gs.length<G.length:=by have:=M.len;simp at this;omega
        go_wp2_with fail;refine (A3v _ q.2.2 wr bI cK).mono ?_;rintro x w9 ⟨u,rfl,hu,b9⟩;have M9:=M.up b9;have k9:=k2.bl b9;obtain⟨us,en,bJ⟩:∃us en,Fm q.2.2=(us,en):=⟨_,_,rfl⟩;have aC:=HM.out;unfold Ey at aC;rw[bJ]at hu aC ⊢;simp only at hu aC ⊢;obtain⟨Au,cu,rfl,-,-⟩:=F8 hu.2;obtain⟨dZ,eA,cL,eB,eC⟩:=M9.row;injection cL with er1' er2' er3';injection er1' with er1';injection er1' with er1';subst er1' er3';have MF:=M9.more rfl hu;clear bJ M9 hu HM M k2 b9 bI cJ;by_cases hen:en=0
        ·rw[if_pos hen]at aC;subst hen;have cM:=Lib.hid aC;clear aC;go_wp2_with fail;go_roundw;case rel=>exact ⟨gs++[(q.1,q.2.1,us)],G3,by simp,MF,cM⟩
         case measure=>simp[intOf];omega
        ·rw[if_neg hen]at aC;have eD:(en != 0)=true:=by rw[bne_iff_ne];exact hen
         have aS:pa=.error en:=by rw[HX.out,aC]
         clear hen aC HX HP;subst aS;have aT:=R0.below MF.below R0.lt;have p0:=aT.at_ (i:=0) rfl;have pf:=aT.frozen 0;go_wp2_with fail;exact bodyPost_ret (H8 rfl (C5.row (aT.set_ 0 .nilIface) rfl _ Tryz.underlying95 rfl (by kernel_rfl)) (C5.tmp rfl) (C5.tmp rfl)) rfl ⟨.e,_,_,rfl,⟨rfl,rfl,rfl⟩,(C3 B0 MF.below B0.size).setCell (Nat.le_refl _) _⟩
    ·rw[if_neg hz]at HX;have aN:=beq_eq_false_iff_ne.2 hz;clear hz;subst HX;have eE:(Nj s != 0)=true:=by rw[bne,aN];rfl
     have p0:wr.cell? ⟨w.heap.size,0,none⟩=some .nilIface:=k2.at_ rfl;have pf:=k2.frozen 0;go_wp2_with fail;exact bodyPost_ret (H8 rfl (C5.row (k2.set_ 0 .nilIface) rfl _ Tryz.underlying95 rfl (by kernel_rfl)) (C5.tmp rfl) (C5.tmp rfl)) rfl ⟨.e,_,_,rfl,⟨rfl,rfl,rfl⟩,(C3 B0 I.below B0.size).setCell (Nat.le_refl _) _⟩
   | true=>
    have dI:Hid (F=Nr m' (rbS (Ox (Ji (Az 32 s)) (Lf (Az 32 s)) []).2) (G++[(Re s,(Ox (Ji (Az 32 s)) (Lf (Az 32 s)) []).1,Zo (Ox (Ji (Az 32 s)) (Lf (Az 32 s)) []).2)])):=Lib.hid (by
     have:=bZ.out;unfold Nr at this;rw[if_pos hw]at this;exact this)
    clear bZ;go_wp2_with fail;refine (Rt g s wr I.rd).mono ?_;rintro x w5 ⟨rfl,eF⟩;have I5:=I.tk eF;have aH:=Fd s;have cN:F9 (w5.alloc (Obj.cells Ux.cells.toArray 51)) ⟨w5.heap.size,0,none⟩ 34=true:=(Bk.new w5 51 Ux.cells).can (by rw[Gw.len (r:=Ux) (by simp[Ux])];omega);have cA:(Gw.cells ⟨Re s,⟨none,0,0⟩,⟨none,0,0⟩⟩).length=34:=Gw.len aH;obtain⟨w6,bK⟩:=D9 (C2 (w5.alloc (Obj.cells Ux.cells.toArray 51)) ⟨w5.heap.size,0,none⟩ (Gw.cells ⟨Re s,⟨none,0,0⟩,⟨none,0,0⟩⟩));have dJ:Bk w6 w5.heap.size 51 (Gw.cells ⟨Re s,⟨none,0,0⟩,⟨none,0,0⟩⟩):=by rw[bK];exact (Bk.new w5 51 Ux.cells).puts (by rw[cA,Gw.len (r:=Ux) (by simp[Ux])])
    have b6:Below w5.heap.size w5 w6:=by rw[bK];exact C0 (U7 _ _) (Nat.le_refl _) _
    have K6:ApK w5 w6 g w5.heap.size (Re s) (.slice none 0 0) [] (Az 32 s):=⟨E5 b6 g,I5.rd.up b6,⟨none,0,rfl,dJ⟩,OwnK.nil _ _,fun _=>rfl⟩;have dK:w6.cell? ⟨gb,0,none⟩=some (.pointer (some ⟨g,0,none⟩)):=(I5.box.below b6 I5.box.lt).at_ rfl;have cO:g<w5.heap.size:=I5.rd.lt;have dL:=I5.outLt;have eV:gb<w5.heap.size:=I5.box.lt;rw[bK]at dK;go_wp2_with fail;rw[←bK];clear bK cN dK dJ b6;refine (Tw g (Az 32 s) w6 K6.rd).mono ?_;rintro x w7 ⟨rfl,dM⟩;have K7:=K6.tk dM cO;have dO:Ji (Az 32 s)≤65536:=Mh _ _;obtain⟨k0,bC⟩:=D9 (Ji (Az 32 s));obtain⟨q0,cP⟩:=D9 (Lf (Az 32 s));obtain⟨H,hH⟩:=D9 (Ox k0 q0 []);have aI:Hid (F=Nr m' (rbS H.2) (G++[(Re s,H.1,Zo H.2)])):=Lib.hid (by rw[dI.out,hH,bC,cP]);have HH:=Lib.hid hH;obtain⟨id,hid⟩:=D9 (Re s);rw[←cP]at K7;rw[←bC]at dO ⊢;rw[←hid]at aI aH cA K7 ⊢;clear dM K6 bC cP dI hH hid;go_wp2_with fail;go_loopw [12] (fun nv wk=>∃(k:Nat) (ks:List (List UInt8)) (q:RS) (kv:Value),nv=.int .i64 (k:Int)∧ApK w5 wk g w5.heap.size id kv ks q∧Hid (H=Ox k q ks)∧ks.length+k≤65536) (fun nv _=>(intOf nv).toNat)
    case atStart=>exact ⟨k0,[],q0,_,rfl,K7,HH,by simpa using dO⟩
    case round=>
     clear K7 HH;obtain⟨k,ks,q,kv,rfl,K,HK,eW⟩:=hrel;have bL:Bk wr gb 147 [.pointer (some ⟨g,0,none⟩)]:=(I5.tk ⟨K.rd,K.gr⟩).box;rcases Nat.eq_zero_or_pos k with bC | bC
     ·subst bC;have cQ:H=(ks,q):=HK.out;have cR:wr.cell? ⟨gb,0,none⟩=some (.pointer (some ⟨g,0,none⟩)):=bL.at_ rfl;go_wp2_with fail;have S0:=Nq wr;have K1:=K.up S0;obtain⟨A,c,rfl,aG⟩:=K1.bx;have Id:=I5.tk ⟨K1.rd,K1.gr⟩;have aU:Hid (F=Nr m' (rbS q) (G++[(id,ks,Zo q)])):=Lib.hid (by have:=aI.out;rw[cQ]at this;exact this);have bM:HsK wr.drew (.slice A ks.length c) ks:=⟨K1.own.hs.less (Nat.zero_le _),Be K1.own.2,K1.nl⟩;have bN:C7d wr.drew ⟨id,⟨A,ks.length,c⟩,⟨none,0,0⟩⟩ (id,ks,Zo q):=⟨rfl,aH,bM,rfl⟩;have bO:(Gw.cells ⟨id,⟨A,ks.length,c⟩,⟨none,0,0⟩⟩).length=34:=Gw.len aH;have cS:Ux.V.cells.size=34:=by simp[Gw.V,Ux,Gw.cells,Value.cells]
      obtain⟨R,hR,ho⟩:=Id.out;have bP:g+1≤wr.drew.heap.size:=Id.rd.lt;clear S0 K HK aI bM K1 cR;refine Ij (fun X=>Bk X gb 147 [.pointer (some ⟨g,0,none⟩)]∧Bk X w5.heap.size 51 (Gw.cells ⟨id,⟨A,ks.length,c⟩,⟨none,0,0⟩⟩)) ?_;refine Cn (A:=?eX) [0,1,4,5] ⟨Id.box,aG⟩ (fun X hX=>?eG) ?eY;case eG=>
       have f1:X.cell? ⟨gb,0,none⟩=some (.pointer (some ⟨g,0,none⟩)):=hX.1.at_ rfl;have f2:C4 X ⟨w5.heap.size,0,none⟩ 34=some (Gw.cells ⟨id,⟨A,ks.length,c⟩,⟨none,0,0⟩⟩):=by have:=hX.2.rows;rwa [bO]at this
       exact Fa
      refine Q6 2 fun Q' hQ'=>?_;dsimp only[C6];have aA:=Lib.hid hQ';clear hQ';go_wp2_with fail;refine aA.out _ _ ⟨Id.box.alloc _,aG.alloc _⟩ ?_;clear aA;refine Q6 3 fun Q' hQ'=>?_;dsimp only[C6];have aA:=Lib.hid hQ';clear hQ';go_wp2_with (at_builtin;refine T7 44 51 Ux.V 34 80 Tryz.underlying44 D2i cS (by decide) (by decide) rfl _ _ rfl rfl ho (Gw.cells ⟨id,⟨A,ks.length,c⟩,⟨none,0,0⟩⟩) bO (Gw.one _) _ rfl rfl rfl (by omega) bP ?_;intro A8 eH w8 q1 q2 aD bQ aV aW);have I8:=Id.appOut hR ho bN aD bQ aV;have aX:=aG.grown aV (fun e=>Nat.lt_irrefl _ (dL _ e.symm));clear q1 q2 aD bQ aV aW hR ho bN Id aG;refine aA.out _ _ ⟨I8.box,aX⟩ ?_;clear aA;refine Q6 6 fun Q' hQ'=>?_;dsimp only[C6];have aA:=Lib.hid hQ';clear hQ';go_wp2_with fail;refine (Qf g q w8 I8.rd).mono ?_;rintro x w9 ⟨uv,rfl,hu,bR,aY⟩;have I9:=I8.tk aY;have aJ:=aX.grown aY.gr (by simp;omega);have bS:ByT w9 uv (Zo q):=⟨By.less hu (Nat.zero_le _),bR⟩;obtain⟨Au,cu,rfl,-,-,-⟩:=hu.open_;obtain⟨vs,hV,aQ⟩:=I9.bat;have aZ:g+1≤w9.heap.size:=I9.rd.lt;clear aY I8 aX hu bR;go_wp2_with fail;refine aA.out _ _ ⟨I9.box,aJ⟩ ?_;clear aA;refine Q6 7 fun Q' hQ'=>?_;dsimp only[C6];have aA:=Lib.hid hQ';clear hQ';go_wp2_with fail;refine aA.out _ _ ⟨I9.box.alloc _,aJ.alloc _⟩ ?_;clear aA;refine Q6 8 fun Q' hQ'=>?_;dsimp only[C6];have aA:=Lib.hid hQ';clear hQ'
      go_wp2_with (at_builtin;refine T7 61 38 (.slice none 0 0) 1 24 Tryz.underlying61 B7l rfl (by decide) (by decide) rfl _ _ rfl rfl aQ [.slice Au (Zo q).length cu] rfl (by intro u hu;simp at hu;subst hu;rfl) _ rfl rfl rfl (by omega) aZ ?_;intro eI eJ eK q1 q2 aB aK aE aL);have bA:=I9.appBat hV aQ (q:=(id,ks,Zo q)) bS aB aK aE;have aM:=aJ.grown aE ((Be aQ).ne (Gp aJ) (by decide));clear q1 q2 aB aK aE aL hV aQ bS I9 aJ;refine aA.out _ _ ⟨bA.box,aM⟩ ?_;clear aA;refine Cn (A:=?eZ) [9,10] ⟨bA.box,aM⟩ (fun X hX=>?bX) ?fB;case bX=>
       simp only[List.append_eq,Nw,pick,Se];repeat (go_big_quiet_step (fail))
       refine wpQuiet_nil ?_;rfl
      refine Gn ?_;go_wp2_with fail;go_roundw;case rel=>exact ⟨m',G++[(id,ks,Zo q)],rbS q,by go_num,bA,aU,by simp;omega⟩
      case measure=>simp[intOf]
     ·obtain⟨k',rfl⟩:∃k',k=k'+1:=⟨k-1,by omega⟩;have fC:decide ((0:Int)<((k'+1:Nat):Int))=true:=decide_eq_true (by omega);have fD:decide (0<k'+1)=true:=decide_eq_true (by omega);go_wp2_with fail;refine (B3h gb g q wr bL K.rd).mono ?_;rintro x wx ⟨rfl,hx⟩;rw[hx];clear hx wx;cases hwq:Iz q with
      | false=>
       have cQ:H=(ks,q):=by have:=HK.out;unfold Ox at this;rw[if_neg (by rw[hwq];decide)]at this;exact this
       have cR:wr.cell? ⟨gb,0,none⟩=some (.pointer (some ⟨g,0,none⟩)):=bL.at_ rfl;go_wp2_with fail;have S0:=Nq wr;have K1:=K.up S0;obtain⟨A,c,rfl,aG⟩:=K1.bx;have Id:=I5.tk ⟨K1.rd,K1.gr⟩;have aU:Hid (F=Nr m' (rbS q) (G++[(id,ks,Zo q)])):=Lib.hid (by have:=aI.out;rw[cQ]at this;exact this);have bM:HsK wr.drew (.slice A ks.length c) ks:=⟨K1.own.hs.less (Nat.zero_le _),Be K1.own.2,K1.nl⟩;have bN:C7d wr.drew ⟨id,⟨A,ks.length,c⟩,⟨none,0,0⟩⟩ (id,ks,Zo q):=⟨rfl,aH,bM,rfl⟩;have bO:(Gw.cells ⟨id,⟨A,ks.length,c⟩,⟨none,0,0⟩⟩).length=34:=Gw.len aH;have cS:Ux.V.cells.size=34:=by simp[Gw.V,Ux,Gw.cells,Value.cells]
       obtain⟨R,hR,ho⟩:=Id.out;have bP:g+1≤wr.drew.heap.size:=Id.rd.lt;clear S0 K HK aI bM K1 cR;refine Ij (fun X=>Bk X gb 147 [.pointer (some ⟨g,0,none⟩)]∧Bk X w5.heap.size 51 (Gw.cells ⟨id,⟨A,ks.length,c⟩,⟨none,0,0⟩⟩)) ?_;refine Cn (A:=?fE) [0,1,4,5] ⟨Id.box,aG⟩ (fun X hX=>?eL) ?fF;case eL=>
        have f1:X.cell? ⟨gb,0,none⟩=some (.pointer (some ⟨g,0,none⟩)):=hX.1.at_ rfl;have f2:C4 X ⟨w5.heap.size,0,none⟩ 34=some (Gw.cells ⟨id,⟨A,ks.length,c⟩,⟨none,0,0⟩⟩):=by have:=hX.2.rows;rwa [bO]at this
        exact Fa
       refine Q6 2 fun Q' hQ'=>?_;dsimp only[C6];have aA:=Lib.hid hQ';clear hQ';go_wp2_with fail;refine aA.out _ _ ⟨Id.box.alloc _,aG.alloc _⟩ ?_;clear aA;refine Q6 3 fun Q' hQ'=>?_;dsimp only[C6];have aA:=Lib.hid hQ';clear hQ';go_wp2_with (at_builtin;refine T7 44 51 Ux.V 34 80 Tryz.underlying44 D2i cS (by decide) (by decide) rfl _ _ rfl rfl ho (Gw.cells ⟨id,⟨A,ks.length,c⟩,⟨none,0,0⟩⟩) bO (Gw.one _) _ rfl rfl rfl (by omega) bP ?_;intro A8 eH w8 q1 q2 aD bQ aV aW);have I8:=Id.appOut hR ho bN aD bQ aV;have aX:=aG.grown aV (fun e=>Nat.lt_irrefl _ (dL _ e.symm));clear q1 q2 aD bQ aV aW hR ho bN Id aG;refine aA.out _ _ ⟨I8.box,aX⟩ ?_;clear aA;refine Q6 6 fun Q' hQ'=>?_;dsimp only[C6];have aA:=Lib.hid hQ';clear hQ';go_wp2_with fail;refine (Qf g q w8 I8.rd).mono ?_;rintro x w9 ⟨uv,rfl,hu,bR,aY⟩;have I9:=I8.tk aY;have aJ:=aX.grown aY.gr (by simp;omega);have bS:ByT w9 uv (Zo q):=⟨By.less hu (Nat.zero_le _),bR⟩;obtain⟨Au,cu,rfl,-,-,-⟩:=hu.open_;obtain⟨vs,hV,aQ⟩:=I9.bat;have aZ:g+1≤w9.heap.size:=I9.rd.lt;clear aY I8 aX hu bR;go_wp2_with fail;refine aA.out _ _ ⟨I9.box,aJ⟩ ?_;clear aA;refine Q6 7 fun Q' hQ'=>?_;dsimp only[C6];have aA:=Lib.hid hQ';clear hQ';go_wp2_with fail;refine aA.out _ _ ⟨I9.box.alloc _,aJ.alloc _⟩ ?_;clear aA;refine Q6 8 fun Q' hQ'=>?_;dsimp only[C6];have aA:=Lib.hid hQ';clear hQ'
       go_wp2_with (at_builtin;refine T7 61 38 (.slice none 0 0) 1 24 Tryz.underlying61 B7l rfl (by decide) (by decide) rfl _ _ rfl rfl aQ [.slice Au (Zo q).length cu] rfl (by intro u hu;simp at hu;subst hu;rfl) _ rfl rfl rfl (by omega) aZ ?_;intro eI eJ eK q1 q2 aB aK aE aL);have bA:=I9.appBat hV aQ (q:=(id,ks,Zo q)) bS aB aK aE;have aM:=aJ.grown aE ((Be aQ).ne (Gp aJ) (by decide));clear q1 q2 aB aK aE aL hV aQ bS I9 aJ;refine aA.out _ _ ⟨bA.box,aM⟩ ?_;clear aA;refine Cn (A:=?fG) [9,10] ⟨bA.box,aM⟩ (fun X hX=>?aF) ?fH;case aF=>
        simp only[List.append_eq,Nw,pick,Se];repeat (go_big_quiet_step (fail))
        refine wpQuiet_nil ?_;rfl
       refine Gn ?_;go_wp2_with fail;go_roundw;case rel=>exact ⟨m',G++[(id,ks,Zo q)],rbS q,by go_num,bA,aU,by simp;omega⟩
       case measure=>simp[intOf]
      | true=>
       have eM:Hid (H=Ox k' (Az 32 q) (ks++[Re q])):=Lib.hid (by
        have:=HK.out;unfold Ox at this;rw[if_pos hwq]at this;exact this)
       obtain⟨A,c,rfl,kg⟩:=K.bx;have dQ:=Fd q;clear HK;go_wp2_with fail;have S0:=Nq wr;have K1:=K.up S0;have aG:=kg.bl S0;have bB:=bL.bl S0;have fI:w5.heap.size<wr.heap.size:=kg.lt;clear K S0 kg bL;refine Ij (fun X=>Bk X gb 147 [.pointer (some ⟨g,0,none⟩)]) ?_;refine Cn (A:=?eN) [0,2] bB (fun X hX=>?cT) ?eO;case cT=>
        have f1:X.cell? ⟨gb,0,none⟩=some (.pointer (some ⟨g,0,none⟩)):=hX.at_ rfl;exact Fa
       refine B9o 46 48 49 ?_;refine C3r 1 3 4 (B2g 46 48 49 _ _) (ri:=.slice A ks.length c)
        (fun W=>Bk W w5.heap.size 51 (Gw.cells ⟨id,⟨A,ks.length,c⟩,⟨none,0,0⟩⟩))
        (fun y W=>y=A8 (Re q)∧ApK w5 W g w5.heap.size id (.slice A ks.length c) ks (Az 32 q))
        (fun z W=>∃p,z=.slice (some ⟨p,0,none⟩) 1 1∧Bk W p 40 (c8 (Re q))∧ApK w5 W g w5.heap.size id (.slice A ks.length c) ks (Az 32 q))
        (by kernel_rfl) (by kernel_rfl) (by kernel_rfl) (by kernel_rfl) (by kernel_rfl) (by kernel_rfl) (by kernel_rfl) (by kernel_rfl) (by kernel_rfl) rfl rfl rfl (fun _ _ _=>rfl) (fun _ _ _=>rfl) (fun _ _ _=>rfl)
        bB aG ?mi ?mj ?mm ?mr
       case mi=>intro y z W hW hT Q' hQ';dsimp only[C6,B2g]at hQ' ⊢;simp only[Nv,List.getD_cons_succ,List.getD_cons_zero];have f1:W.cell? ⟨w5.heap.size,32,none⟩=some (.slice A ks.length c):=hT.at_ (by rw[Gw.cells,List.getElem?_append_right (by simp[aH])];simp[aH,Sv.v]);go_wp2_with fail;exact Gg hQ' (by kernel_rfl)
       case mj=>intro x Q' hQ';dsimp only[C6,B2g]at hQ' ⊢;simp only[Nv,List.getD_cons_succ,List.getD_cons_zero];go_wp2_with fail;refine (Rt g q wr.drew K1.rd).mono ?_;rintro e W2 ⟨rfl,cU⟩;go_wp2_with fail;exact FE' (hQ' _ _ (bB.grown cU.gr (by simp;omega)) (aG.grown cU.gr (by simp;omega)) ⟨rfl,K1.tk cU cO⟩)
       case mm=>rintro x y W hW hT ⟨rfl,KW⟩ Q' hQ';dsimp only[C6,B2g]at hQ' ⊢;simp only[Nv,List.getD_cons_succ,List.getD_cons_zero];go_wp2_with fail;have bW:Below W.heap.size W (W.alloc (Obj.cells (c8 (Re q)).toArray 40)):=U7 _ _;exact FE' (hQ' _ _ (hW.alloc _) (hT.alloc _) ⟨_,rfl,Bk.new W _ _,KW.up bW⟩)
       case mr=>
        rintro y z W hW hT ⟨p,rfl,kp,KW⟩;have hO:=KW.own;have dS:Rd W 0 W.heap.size (some ⟨p,0,none⟩) (c8 (Re q)):=.inr ⟨p,0,rfl,Nat.zero_le _,kp.lt,fun j x hj=>by rw[Nat.zero_add];exact kp.at_ hj⟩;have dT:∀x∈c8 (Re q),x.oneCell'=true:=by intro x hx;obtain⟨y,_,rfl⟩:=List.mem_map.1 hx;rfl
        have bP:w5.heap.size+1≤W.heap.size:=hT.lt;dsimp only[B2g];simp only[Nv,List.getD_cons_succ,List.getD_cons_zero];refine Q6 5 fun Q' hQ'=>?_;dsimp only[C6];have aA:=Lib.hid hQ';clear hQ';go_wp2_with (at_builtin;refine B7p 49 (A8 (z8 32)) 32 Tryz.underlying49 Yo (by simp[A8,Value.cells]) (by decide) (by decide) rfl _ _ rfl rfl (n:=ks.length) (base:=w5.heap.size+1) (xs:=c8 ks.flatten) hO.2 (some ⟨p,0,none⟩) 1 1 rfl (c8 (Re q)) (by simp[dQ]) 0 _ dS dT (by omega) bP ?_;intro A' c' w8 eP eQ bT cB eS cV);have KF:=KW.app hT aH dQ cO (Nat.le_refl _) bT cB;have cW:=hW.below cB (by omega);have dU:=hT.below cB (Nat.lt_succ_self _);have fJ:=dU.frozen 32;have Fw:w8.cell? ⟨w5.heap.size,32,none⟩=some (.slice A ks.length c):=dU.at_ (by rw[Gw.cells,List.getElem?_append_right (by simp[aH])];simp[aH,Sv.v]);refine aA.out _ _ cW ?_;clear aA hO dS dT KW hT kp bT cB eS cV hW;refine Q6 6 fun Q' hQ'=>?_;dsimp only[C6];go_wp2_with fail;refine hQ' _ _ cW ?_;clear hQ';refine Q6 7 fun Q' hQ'=>?_;dsimp only[C6];go_wp2_with fail;refine hQ' _ _ (cW.far (p:=⟨w5.heap.size,32,none⟩) (by simp;omega) _) ?_;clear hQ';refine Gn ?_;go_wp2_with fail;go_roundw;case rel=>exact ⟨k',ks++[Re q],Az 32 q,_,by go_num,KF,eM,by simp;omega⟩
        case measure=>simp[intOf]
theorem B9b (v:Value) (l:List UInt8) (w:World) (hv:By w 0 w.heap.size v l) (hn:l.length≤1099511627776) :
 Calls Tryz.prog 12 #[v] w fun x w'=>∃p gv e,x=.returned (.tuple #[gv,.int .i64 e])∧D8b w' p gv e (Dt l)∧Below w.heap.size w w':=by
 obtain⟨pa,aA⟩:=D9 (Dt l);have HA:=Lib.hid aA;rw[←aA];clear aA;go_enter Tryz.func12,Tryz.ntmps12;go_wp2_with fail;refine (A3m v l w hv hn).mono ?_;rintro x w1 ⟨p,gv,e,rfl,hp,b1⟩;rw[←HA.out]at hp;have HR:=Lib.hid hp;have bb:Below w1.heap.size w1 (w1.alloc (Obj.cells #[p.val] 95)):=U7 _ _;clear hp;go_wp2_with fail;refine bodyPost_ret (C8 rfl (C5.tmp rfl) (C5.tmp rfl)) rfl ⟨p,gv,e,rfl,?_,C3 b1 bb b1.size⟩;have:=HR.out;cases pa with
 | error e'=>exact this
 | ok r=>
  obtain⟨p',gs⟩:=r;obtain⟨h1,h2,h3⟩:=this;exact ⟨h1,h2,h3.grown (row:=none) (T:=95) ⟨bb.os,bb.tape,bb.output,bb.size,fun k hk _=>bb.block k hk⟩ (fun g e=>by cases e) (by decide) (by decide) (by decide)⟩
theorem C1d {P:Program} {w:World} {A:Option Addr} {n c:Nat} {l:List UInt8} (h:By w 0 w.heap.size (.slice A n c) l):(Extern.Bytes.bytesOf (.slice A n c)).run P w=.ok ⟨l.toArray⟩ w:=by
 obtain⟨A',c',e,_,_,hr⟩:=h.open_;injection e with e1 e2 e3;subst e1 e2;rcases hr with h | ⟨g,o,rfl,_,_,hc⟩
 ·obtain rfl:l=[]:=by simpa using h
  cases A with
  | none=>rfl
  | some a=>rfl
 ·have hb:Lib.bytesOf (l.map fun x=>(x.toNat:Int))=l:=by
   unfold Lib.bytesOf;rw[List.map_map];conv=>rhs;rw[←List.map_id l]
   refine List.map_congr_left fun x _=>?_;simp
  have hl:=Lib.run_loadBytesX (P:=P) w (l.map fun x=>(x.toNat:Int)) ⟨g,o,none⟩ .empty (fun j x hj=>by
   have e:(⟨g,o,none⟩:Addr).add j=⟨g,o+j,none⟩:=by unfold Addr.add;split<;>simp_all
   rw[e];rw[List.getElem?_map]at hj;cases hl:l[j]? with
   | none=>rw[hl]at hj;simp at hj
   | some y=>
    rw[hl]at hj;have hx:x=(y.toNat:Int):=by simpa using hj.symm
    subst hx;have h2:(l.map v8)[j]?=some (v8 y):=by rw[List.getElem?_map,hl];rfl
    exact hc j _ h2)
  rw[List.length_map,hb]at hl;show (Extern.Bytes.loadBytes ⟨g,o,none⟩ l.length .empty).run P w=_;rw[hl];simp
theorem Vh (v u:Value) (a b:List UInt8) (w:World) (hv:By w 0 w.heap.size v a) (hu:By w 0 w.heap.size u b) :
 Calls Tryz.prog 31 #[v,u] w fun x w'=>x=.returned (.int .i64 (Lib.compareBytes a b))∧w'=w:=by
 obtain⟨A,c,rfl,_⟩:=hv.open_;obtain⟨A2,c2,rfl,_⟩:=hu.open_;have hr:(Extern.BytealgCompare.compare #[.slice A a.length c,.slice A2 b.length c2]).run Tryz.prog w=.ok (.int .i64 (Lib.compareBytes a b)) w:=by
  change Sem.run Tryz.prog (do pure (goInt (Extern.BytealgCompare.cmp (←Extern.Bytes.bytesOf (.slice A a.length c)) (←Extern.Bytes.bytesOf (.slice A2 b.length c2))))) w=_;simp only[Sem.run_bind,Sem.run_pure,C1d hv,C1d hu,Result.andThen];rw[Lib.cmp_eq];rfl
 go_enter Tryz.func31,Tryz.ntmps31;go_wp2_with fail;rw[run_callFunc_extern Tryz.func71 (by kernel_rfl) (by kernel_rfl) (by kernel_rfl) (e:=Extern.BytealgCompare.compare) (by kernel_rfl),hr];simp only[Result.andThen];rw[Oper.upon_value];go_wp2_with fail;go_ret;exact ⟨rfl,rfl⟩
end Go.Proofs.YtmllnpokbbabhaaGreat
