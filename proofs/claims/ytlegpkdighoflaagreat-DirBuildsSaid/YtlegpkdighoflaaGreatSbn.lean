/- A part of the proof of DirBuilds. -/
import Derived.Test.YtlegpkdighoflaaGreatSbm
set_option linter.unusedVariables false
set_option linter.unusedSimpArgs false
set_option maxRecDepth 100000
set_option maxHeartbeats 40000000
namespace Go.Proofs.YtlegpkdighoflaaGreat
open Go Go.RowKit Sh
section
def doneE (p:List UInt8→Bool) (L:List En):List En:=L.filter fun q=>p q.1
noncomputable def Wr (id:List UInt8) (ks:List (List UInt8)) (L:List En):List En:=(L.filter fun q=>Ca q.1 id)++[(id,ks)]++(L.filter fun q=>Ca id q.1)
section
variable {L : List En} {id : List UInt8} {ks : List (List UInt8)} {p p' : List UInt8 → Bool}
theorem OkE.done (ok:OkE L) (p:List UInt8→Bool):OkE (doneE p L):=
 ⟨fun q hq=>ok.id q (List.mem_filter.1 hq).1,fun q hq=>ok.one q (List.mem_filter.1 hq).1,fun q hq=>ok.key q (List.mem_filter.1 hq).1,ok.rise.sublist List.filter_sublist⟩
theorem Tu (ok:OkE L) (p:List UInt8→Bool) (x:List UInt8):lookE (doneE p L) x=if p x=true then lookE L x else []:=by
 by_cases h:∃q∈L,q.1=x
 ·obtain⟨q,hq,rfl⟩:=h;cases hp:p q.1 with
  | true=>rw[if_pos rfl,X2 ok.rise q hq];exact X2 (ok.done p).rise q (List.mem_filter.2 ⟨hq,hp⟩)
  | false=>
   rw[if_neg (by decide)];refine Bc fun q' hq' e=>?_;have:=(List.mem_filter.1 hq').2;rw[e,hp]at this;cases this
 ·have h':∀q∈L,q.1≠x:=fun q hq e=>h ⟨q,hq,e⟩;rw[Bc h',show lookE (doneE p L) x=[] from Bc fun q hq=>h' q (List.mem_filter.1 hq).1];cases p x<;>rfl
theorem C6t (h:∀q∈L,p q.1=true):doneE p L=L:=List.filter_eq_self.2 h
theorem C1k (h:∀q∈L,p q.1=false):doneE p L=[]:=List.filter_eq_nil_iff.2 fun q hq=>by rw[h q hq];decide
theorem Tx (hn:lookE L id≠[]):(id,lookE L id)∈L:=by
 induction L with
 | nil=>exact (hn rfl).elim
 | cons q L ih=>
  unfold lookE at hn ⊢;by_cases e:q.1=id
  ·rw[if_pos e,←e];exact List.mem_cons_self
  ·rw[if_neg e]at hn ⊢;exact List.mem_cons_of_mem _ (ih hn)
theorem C1g (ok:OkE L) (hn:lookE L id=[]) (hp:∀x,x.length=32→x≠id→p' x=p x):doneE p' L=doneE p L:=by
 refine List.filter_congr fun q hq=>hp q.1 (ok.id q hq) fun e=>?_;have h1:=X2 ok.rise q hq;rw[e,hn]at h1;have h2:=ok.one q hq;rw[←h1]at h2;exact absurd h2 (by decide)
theorem B9z (ok:OkE L) (hn:lookE L id≠[]) (h0:p id=false) (h1:p' id=true) (hp:∀x,x.length=32→x≠id→p' x=p x):doneE p' L=Wr id (lookE L id) (doneE p L):=by
 have hm:=Tx hn;generalize lookE L id=ks at hm;obtain⟨A,B,rfl⟩:=List.append_of_mem hm;have hr:=ok.rise;rw[List.pairwise_append,List.pairwise_cons]at hr;obtain⟨_,⟨hB,_⟩,aA⟩:=hr;have hA:∀q∈A,klt q.1 id:=fun q hq=>aA q hq (id,ks) (by simp);have eA:∀q∈A,p' q.1=p q.1:=fun q hq=>hp _ (ok.id q (by simp[hq])) (hA q hq).ne;have eB:∀q∈B,p' q.1=p q.1:=fun q hq=>hp _ (ok.id q (by simp[hq])) fun e=>(hB q hq).ne e.symm;have f1:doneE p' (A++(id,ks)::B)=doneE p A++(id,ks)::doneE p B:=by unfold doneE;rw[List.filter_append,List.filter_cons_of_pos (p:=fun q:En=>p' q.1) (a:=(id,ks)) h1,List.filter_congr eA,List.filter_congr eB]
 have f2:doneE p (A++(id,ks)::B)=doneE p A++doneE p B:=by unfold doneE;rw[List.filter_append,List.filter_cons_of_neg (p:=fun q:En=>p q.1) (a:=(id,ks)) (by rw[h0];decide)]
 rw[f1,f2];have gA:∀q∈doneE p A,Ca q.1 id=true∧Ca id q.1=false:=fun q hq=>by
  have h:=hA q (List.mem_filter.1 hq).1;refine ⟨M8.2 h,?_⟩;cases hk:Ca id q.1 with
  | false=>rfl
  | true=>exact (h.asymm (M8.1 hk)).elim
 have gB:∀q∈doneE p B,Ca id q.1=true∧Ca q.1 id=false:=fun q hq=>by
  have h:=hB q (List.mem_filter.1 hq).1;refine ⟨M8.2 h,?_⟩;cases hk:Ca q.1 id with
  | false=>rfl
  | true=>exact (h.asymm (M8.1 hk)).elim
 unfold Wr;rw[List.filter_append,List.filter_append,List.filter_eq_self.2 (fun q hq=>(gA q hq).1),List.filter_eq_nil_iff.2 (fun q hq=>by rw[(gB q hq).2];decide),List.filter_eq_nil_iff.2 (fun q hq=>by rw[(gA q hq).2];decide),List.filter_eq_self.2 (fun q hq=>(gB q hq).1)];simp
theorem C2c:pairsE (Wr id ks L)=A3e id (Ay ks) (pairsE L):=by
 unfold pairsE Wr A3e;rw[List.map_append,List.map_append,List.filter_map,List.filter_map];rfl
theorem C3n {t:Tr} (okt:Okt t) (hp:t.pairs=pairsE L) (hid:id.length=32):Okt (Su t id (Ay ks))∧(Su t id (Ay ks)).pairs=pairsE (Wr id ks L):=by
 refine ⟨okt.put hid (Co _),?_⟩;rw[C2c,←hp];exact (A5f hid (Co _) okt).symm
theorem Lh (ok:OkE L) (hid:id.length=32) (hno:∀q∈L,q.1≠id) (q:En):q∈Wr id ks L↔q=(id,ks)∨q∈L:=by
 unfold Wr;simp only[List.mem_append,List.mem_filter,List.mem_singleton];constructor
 ·rintro ((⟨h1,h2⟩ | rfl) | ⟨h1,h2⟩)
  ·exact .inr h1
  ·exact .inl rfl
  ·exact .inr h1
 ·rintro (rfl | h1)
  ·exact .inl (.inr rfl)
  ·rcases klt.total (ok.id q h1) hid (hno q h1) with h3 | h3
   ·exact .inl (.inl ⟨h1,M8.2 h3⟩)
   ·exact .inr ⟨h1,M8.2 h3⟩
theorem OkE.add (ok:OkE L) (hid:id.length=32) (hno:∀q∈L,q.1≠id) (hl:0<ks.length) (hk:∀k∈ks,k.length=32):OkE (Wr id ks L):=by
 refine ⟨fun q hq=>?_,fun q hq=>?_,fun q hq=>?_,?_⟩
 ·rcases (Lh ok hid hno q).1 hq with rfl | h
  ·exact hid
  ·exact ok.id q h
 ·rcases (Lh ok hid hno q).1 hq with rfl | h
  ·exact hl
  ·exact ok.one q h
 ·rcases (Lh ok hid hno q).1 hq with rfl | h
  ·exact hk
  ·exact ok.key q h
 ·unfold Wr;rw[List.pairwise_append,List.pairwise_append];refine ⟨⟨ok.rise.sublist List.filter_sublist,List.pairwise_singleton _ _,?_⟩,ok.rise.sublist List.filter_sublist,?_⟩
  ·intro a ha b hb;simp only[List.mem_singleton]at hb;subst hb;exact M8.1 (List.mem_filter.1 ha).2
  ·intro a ha b hb;have h2:=M8.1 (List.mem_filter.1 hb).2;rcases List.mem_append.1 ha with ha | ha
   ·exact (M8.1 (List.mem_filter.1 ha).2).trans h2
   ·simp only[List.mem_singleton]at ha;subst ha;exact h2
theorem C0k (ok:OkE L) (hid:id.length=32) (hno:∀q∈L,q.1≠id) (hl:0<ks.length) (hk:∀k∈ks,k.length=32) (x:List UInt8):lookE (Wr id ks L) x=if x=id then ks else lookE L x:=by
 have aA:=ok.add hid hno hl hk;by_cases e:x=id
 ·subst e;rw[if_pos rfl];exact X2 aA.rise (x,ks) ((Lh ok hid hno _).2 (.inl rfl))
 ·rw[if_neg e];by_cases h:∃q∈L,q.1=x
  ·obtain⟨q,hq,rfl⟩:=h;rw[X2 ok.rise q hq];exact X2 aA.rise q ((Lh ok hid hno _).2 (.inr hq))
  ·have h':∀q∈L,q.1≠x:=fun q hq he=>h ⟨q,hq,he⟩;rw[Bc h'];refine Bc fun q hq=>?_;rcases (Lh ok hid hno q).1 hq with rfl | h2
   ·exact fun he=>e he.symm
   ·exact h' q h2
theorem C9w (ok:OkE L) (hid:id.length=32) (hno:∀q∈L,q.1≠id):(Wr id ks L).length=L.length+1:=by
 have h:∀L:List En,(∀q∈L,q.1.length=32)→(∀q∈L,q.1≠id)→(L.filter fun q=>Ca q.1 id).length+(L.filter fun q=>Ca id q.1).length=L.length:=by
  intro L;induction L with
  | nil=>intro _ _;rfl
  | cons q L ih=>
   intro h1 h2;have ih:=ih (fun q hq=>h1 q (by simp[hq])) (fun q hq=>h2 q (by simp[hq]));rcases klt.total (h1 q (by simp)) hid (h2 q (by simp)) with h3 | h3
   ·have h4:Ca id q.1=false:=by
     cases hk:Ca id q.1 with
     | false=>rfl
     | true=>exact (h3.asymm (M8.1 hk)).elim
    rw[List.filter_cons_of_pos (p:=fun q:En=>Ca q.1 id) (a:=q) (M8.2 h3),List.filter_cons_of_neg (p:=fun q:En=>Ca id q.1) (a:=q) (by rw[h4];decide)];simp;omega
   ·have h4:Ca q.1 id=false:=by
     cases hk:Ca q.1 id with
     | false=>rfl
     | true=>exact (h3.asymm (M8.1 hk)).elim
    rw[List.filter_cons_of_neg (p:=fun q:En=>Ca q.1 id) (a:=q) (by rw[h4];decide),List.filter_cons_of_pos (p:=fun q:En=>Ca id q.1) (a:=q) (M8.2 h3)];simp;omega
 have:=h L ok.id hno;unfold Wr;simp;omega
end
end
structure Fine (L : List En) : Prop where
 ok:OkE L
 ne:∀q∈L,q.1≠h1 200∧q.1≠h1 201
 sm:∀x,(lookE L x).length≤64
theorem Fine.nil:Fine []:=⟨OkE.nil,fun q h=>(by cases h),fun x=>Nat.zero_le _⟩
theorem Fine.step {L:List En} {u:UV} (h:Fine L) (hu:u.Ok) (hp:Pub u):Fine (Hi L u):=by
 unfold Hi;split
 ·rename_i hb
  refine ⟨h.ok.with hu.id hu.key,fun q hq=>?_,fun x=>?_⟩
  ·rcases (Gv h.ok hu.id q).1 hq with rfl | hq
   ·exact hp.ne
   ·exact h.ne q hq.1
  ·rw[Gt h.ok hu.id hu.key];split
   ·unfold Kh at hb;rw[Bool.and_eq_true,decide_eq_true_eq]at hb;have hs:=hb.1;unfold signedB at hs;rw[Bool.and_eq_true,Bool.and_eq_true,decide_eq_true_eq,decide_eq_true_eq]at hs;have:=hs.2.1;rw[List.length_append,List.length_singleton];omega
   ·exact h.sm x
 ·exact h
theorem Fine.apply:∀ {us:List UV} {L:List En},Fine L→(∀u∈us,u.Ok)→(∀u∈us,Pub u)→Fine (applyE us L)
 | [],L,h,_,_=>h
 | u::us,L,h,h1,h2=>by
  have e:applyE (u::us) L=applyE us (Hi L u):=rfl;rw[e];exact (h.step (h1 u (by simp)) (h2 u (by simp))).apply (fun x hx=>h1 x (List.mem_cons_of_mem _ hx)) (fun x hx=>h2 x (List.mem_cons_of_mem _ hx))
theorem A0z:∀ {A:List En} {q:En} (x:List UInt8),(∀p∈A,p.1≠q.1)→lookE (A++[q]) x=if x=q.1 then q.2 else lookE A x
 | [],q,x,_=>by
  show (if q.1=x then q.2 else [])=_;by_cases e:x=q.1
  ·rw[if_pos e,if_pos e.symm]
  ·rw[if_neg e,if_neg (fun h=>e h.symm)];rfl
 | p::A,q,x,h=>by
  show (if p.1=x then p.2 else lookE (A++[q]) x)=if x=q.1 then q.2 else (if p.1=x then p.2 else lookE A x);rw[A0z x fun r hr=>h r (List.mem_cons_of_mem _ hr)];by_cases e:p.1=x
  ·rw[if_pos e,if_pos e,if_neg (fun h2=>h p (by simp) (e.trans h2))]
  ·rw[if_neg e,if_neg e]
theorem D1c {A L:List En} {q:En} (ok:OkE L) (h:A++[q] <+: L):∀p∈A,p.1≠q.1:=by
 obtain⟨r,rfl⟩:=h;have hr:=ok.rise;rw[List.pairwise_append,List.pairwise_append]at hr;exact fun p hp=>(hr.1.2.2 p hp q (by simp)).ne
section
open Go.ChangeAt Go.ChangeShapes Go.WideShapes
section
variable {H : Type} {enc : TypeId × Value → H} {P : Program} {w : World} {base : Nat} {spare : Nat → Bool} {held : Bool}
theorem B1y {u t e:TypeId} (hu:P.underlying u=some (.slice t)) (ht:P.underlying t=some (.array 32 e)) (he:P.underlying e=some (.int .u8)) (hc:P.cellsOf e=1) (hct:P.cellsOf t=32) {fuel:Nat} {cs:List Value} {x:DataW H×List MemPlace}
 (hx:DataW.trod enc P w base spare held fuel u cs=some x):∃v l,cs=[v]∧Hs w 0 w.heap.size v l:=by
 rcases Go.Deep.open_slice hu hx with ⟨hcs,_⟩ | ⟨a,len,cap,m,n,D,Pl,hcs,_,hl,hm,hmm,_,hi⟩
 ·exact ⟨_,[],hcs,by simp,none,0,rfl,Nat.le_refl _,by simp[maxLen],.inl rfl⟩
 ·have aN:len≤m:=by rw[hmm];split<;>omega
  have aD:∀i,∃p:List UInt8,i<len→p.length=32∧∀j u,(c8 p)[j]?=some u→w.cell? (a.add (i*32+j))=some u:=by
   intro i;by_cases hil:i<len
   ·obtain⟨aO,aG,aK⟩:=hi i (by omega);rw[hct]at aG;obtain⟨_,aL,aE⟩:=World.cells?_some aG;obtain⟨p,hp,aA⟩:=C5w ht he hc hct aK;refine ⟨p,fun _=>⟨aA,fun j u hj=>?_⟩⟩;have aF:j<32:=by have:=(List.getElem?_eq_some_iff.1 hj).1;rw[H6,aA]at this;exact this
    have:=aE j aF;rw[B2h]at this;rw[this,hp,hj]
   ·exact ⟨[],fun h=>absurd h hil⟩
  obtain⟨f,hf⟩:=Classical.skolem.1 aD;have aA:∀p∈(List.range len).map f,p.length=32:=by
   intro p hp;obtain⟨i,aM,rfl⟩:=List.mem_map.1 hp;exact (hf i (List.mem_range.1 aM)).1
  have aH:((List.range len).map f).length=len:=by simp
  refine ⟨_,(List.range len).map f,hcs,aA,some a,cap,by rw[aH],by omega,hm,?_⟩;rcases Nat.eq_zero_or_pos len with hz | hz
  ·subst hz;exact .inl rfl
  ·have aI:=(hf 0 hz).2 0 _ (Fm (by rw[(hf 0 hz).1];omega));have hs:a.spot=none:=World.cell?_spot (by simpa [Addr.add] using aI);have aB:a.block<w.heap.size:=block_lt_of_cell (by simpa [Addr.add] using aI);obtain⟨g,o,s⟩:=a;simp only at hs aB;subst hs;refine .inr ⟨g,o,rfl,Nat.zero_le _,aB,fun j u hj=>?_⟩;have aF:=(List.getElem?_eq_some_iff.1 hj).1;rw[H6,Z1 aA,aH]at aF;have aJ:j / 32<len:=by omega
   have aE:=Zn aA (i:=j / 32) (k:=f (j / 32)) (by simp[aJ]);have aC:(c8 (f (j / 32)))[j % 32]?=some u:=by rw[←aE];simp only[c8,List.getElem?_map,List.getElem?_take,List.getElem?_drop,if_pos (show j % 32<32 by omega)];rw[show j / 32*32+j % 32=j by omega,←List.getElem?_map];exact hj
   have:=(hf (j / 32) aJ).2 (j % 32) u aC;rw[U0,show j / 32*32+j % 32=j by omega]at this;exact this
end
theorem hashes_open {H:Type} {enc:TypeId×Value→H} {w:World} {base:Nat} {spare:Nat→Bool} {held:Bool} {r:Reach} {b0:Nat} {v:Value} {d:DataW H} {ps:List MemPlace} (hval:Value.okWide Tryz.prog w r b0 42 v)
 (h:DataW.Trod enc Tryz.prog w base spare held 42 v d ps):∃l,Hs w 0 w.heap.size v l:=by
 obtain⟨aC,hf⟩:=h;obtain⟨v',l,hv,hp⟩:=B1y Tryz.underlying42 Tryz.underlying23 Tryz.underlying5 (by kernel_rfl) (by kernel_rfl) hf;have aD:v=v':=by
  obtain⟨a0,aA,aB,e0⟩:=okWide_slice Tryz.underlying42 hval;rw[e0]at hv ⊢;have h1:[Value.slice a0 aA aB]=[v']:=hv;exact (List.cons.inj h1).1
 exact ⟨l,aD▸hp⟩
end
end Go.Proofs.YtlegpkdighoflaaGreat
