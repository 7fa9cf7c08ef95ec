/- A part of the proof of ClientForks. -/
import Derived.Test.YtdfpoofbgjilgaaGreatVag
set_option linter.unusedVariables false
set_option linter.unusedSimpArgs false
set_option maxRecDepth 100000
set_option maxHeartbeats 40000000
namespace Go.Proofs.YtdfpoofbgjilgaaGreat
open Go Go.RowKit Sh
section
def Cg {α:Type} (wr:Nat→Option α) (D:Nat→Bool):Nat→α→α
 | 0,x=>x
 | n+1,x=>if D n=true then (wr n).getD (Cg wr D n x) else Cg wr D n x
theorem Dh {α:Type} {wr:Nat→Option α} {D E:Nat→Bool}:∀ {n:Nat} {x:α},(∀j,j<n→D j≠E j→wr j=none)→Cg wr D n x=Cg wr E n x
 | 0,_,_=>rfl
 | n+1,x,h=>by
  have ih:=Dh (n:=n) (x:=x) fun j hj=>h j (by omega);unfold Cg;by_cases hd:D n=E n
  ·rw[hd,ih]
  ·rw[h n (by omega) hd,ih];simp
theorem Qs {α:Type} {wr:Nat→Option α} {D:Nat→Bool} {i:Nat} {v:α} (hv:wr i=some v) (hi:D i=true):∀ {n:Nat} {x:α},i<n→(∀j,i<j→j<n→D j=true→wr j=none)→Cg wr D n x=v
 | 0,_,h,_=>by omega
 | n+1,x,h,hj=>by
  unfold Cg;by_cases hn:i=n
  ·subst hn;rw[if_pos hi,hv];rfl
  ·have ih:=Qs hv hi (n:=n) (x:=x) (by omega) fun j h1 h2=>hj j h1 (by omega);split
   ·rename_i hd;rw[hj n (by omega) (by omega) hd,ih];rfl
   ·exact ih
def Db (D:Nat→Bool) (i:Nat):Nat→Bool:=fun j=>decide (j=i)||D j
theorem Mx {α:Type} {wr:Nat→Option α} {D:Nat→Bool} {i n:Nat} {x:α} (h:wr i=none):Cg wr (Db D i) n x=Cg wr D n x:=
 Dh fun j _ hd=>by
  by_cases hj:j=i
  ·subst hj;exact h
  ·exact absurd (by simp[Db,hj]) hd
theorem Xc {α : Type} {wr : Nat → Option α} {i : Nat} {x : α} : ∀ {n : Nat}, i ≤ n → Cg wr (fun j => decide (j < i)) n x = Cg wr (fun _ => true) i x
  | 0, h => by have : i = 0 := by omega
               subst this; rfl
  | n + 1, h => by
    by_cases hn : i = n + 1
    · subst hn
      exact Dh fun j hj hd => absurd (by simp [hj]) hd
    · rw [← Xc (n := n) (by omega)]
      conv => lhs; unfold Cg
      rw [if_neg (by simp; omega)]
def He (s : St) (o : Oper) (ev : SEv) : St :=
  { σ := match o.dst with | some t => s.σ.set t ev.val | none => s.σ
    h := match ev.wb with
      | some (b, T, cs) => if b = s.h.length then s.h ++ [some (T, cs)] else s.h.set b (some (T, cs)) ++ [none]
      | none => s.h ++ [none]
    dy := if ev.dy then s.dy ++ [s.h.length] else s.dy }
def B8h (ρ:List Av) (ops:List Oper) (s:St) (o:Oper):Option Bool:=match o.guard with
 | none=>some true
 | some (j,want)=>match (ops[j]?).bind (·.dst) with
  | some t=>match (s.σ[t]?).bind (Ry ρ) with
   | some b=>some (b==want)
   | none=>match s.σ[t]? with
    | some (.v false [.c (.tuple _)])=>some false
    | _=>none
  | none=>none
def F2t (s:St) (nm:Nat) (ev:SEv):Bool:=match ev.wb with
 | some x=>x.1==nm||(s.blk x.1).isSome
 | none=>true
def D4a (o:Oper) (ev:SEv):Bool:=match ev.rq with
 | none=>true
 | some (.sem ..)=>true
 | some _=>match o.op with
  | .binOp ..=>true
  | .call c=>(match c.callee with | .value _=>true | _=>false)
  | _=>false
def B3j (P:Program) (g:Cfg) (ρ:List Av) (ops:List Oper) (nm na:Nat) (s:St) (o:Oper):Option SEv:=
 match B8h ρ ops s o with
 | some true=>match Zg P g ρ nm na s o with
  | some ev=>if (F2t s nm ev&&D4a o ev)=true then some ev else none
  | none=>none
 | some false=>some { val:=.v false [.c undef],na }
 | none=>none
def C9q (P:Program) (g:Cfg) (ρ:List Av) (ops:List Oper):List Oper→St→Nat→Option (List SEv×St×Nat)
 | [],s,na=>some ([],s,na)
 | o::os,s,na=>
  match B3j P g ρ ops s.h.length na s o with
  | some ev=>match C9q P g ρ ops os (He s o ev) ev.na with
   | some (evs,s',na')=>some (ev::evs,s',na')
   | none=>none
  | none=>none
def U3 (ops:List Oper) (evs:List SEv) (s:St):Nat→St
 | 0=>s
 | k+1=>match ops[k]?,evs[k]? with
  | some o,some ev=>He (U3 ops evs s k) o ev
  | _,_=>U3 ops evs s k
def B2m (o:Oper) (cl:List Nat):Nat:=o.after.toList.foldl (fun m e=>if Region.binds .any e then m ||| 2 ^ e.on ||| cl.getD e.on 0 else m) 0
def closB:List Oper→List Nat→List Nat
 | [],cl=>cl
 | o::os,cl=>closB os (cl++[B2m o cl])
def A5z (ops:List Oper) (o:Oper):List Tmp:=o.looksAt ops.toArray
def Wi (ops:List Oper) (oi oj:Oper) (ei ej:SEv):Bool:=
 (match oi.dst with | some d=>(A5z ops oj).contains d||oj.dst==some d | none=>false) ||
 (match oj.dst with | some d=>(A5z ops oi).contains d | none=>false) ||
 (match ei.wb with | some x=>ej.rb.contains x.1||(match ej.wb with | some y=>x.1==y.1 | none=>false) | none=>false) ||
 (match ej.wb with | some y=>ei.rb.contains y.1 | none=>false)
def A5p (N0 i cl b:Nat):Bool:=decide (b<N0)||(b==N0+i)||cl.testBit (b-N0)
def D3z (sup:Nat→List Nat) (N N0 i cl:Nat) (o:Oper) (ev:SEv):Bool:=
 (!ev.dy||(sup (N0+i)).all (A5p N0 i cl))&&(ev.val.okn (A5p N0 i cl)&&(match ev.wb with | some x=>x.2.2.all (·.okn (A5p N0 i cl)) | none=>true)&&(match o.dst with | some t=>decide (t<N) | none=>true))
def allConf (ops:List Oper) (evs:List SEv) (cl:List Nat):Bool:=
 (List.range ops.length).all fun j=>(List.range j).all fun i=>match ops[i]?,ops[j]?,evs[i]?,evs[j]? with
  | some oi,some oj,some ei,some ej=>!Wi ops oi oj ei ej||(cl.getD j 0).testBit i
  | _,_,_,_=>false
def allOk (sup:Nat→List Nat) (N N0:Nat) (ops:List Oper) (evs:List SEv) (cl:List Nat):Bool:=
 (List.range ops.length).all fun i=>match ops[i]?,evs[i]? with
  | some o,some ev=>D3z sup N N0 i (cl.getD i 0) o ev
  | _,_=>false
section
variable {P : Program} {g : Cfg} {ops : List Oper} {evs : List SEv} {s0 s : St} {ρ : List Av}
theorem B8i:∀ {os:List Oper} {k:Nat} {s s':St} {na na':Nat} {es:List SEv},(∀j,os[j]?=ops[k+j]?)→(∀j,es[j]?=evs[k+j]?)→C9q P g ρ ops os s na=some (es,s',na')→U3 ops evs s0 k=s→
 es.length=os.length∧U3 ops evs s0 (k+os.length)=s'∧∀j o ev,ops[k+j]?=some o→evs[k+j]?=some ev→j<os.length→∃m,B3j P g ρ ops (U3 ops evs s0 (k+j)).h.length m (U3 ops evs s0 (k+j)) o=some ev
 | [],k,s,s',na,na',es,h1,h2,h,hs=>by
  cases h;exact ⟨rfl,hs,fun j o ev _ _ hj=>by simp at hj⟩
 | o::os,k,s,s',na,na',es,h1,h2,h,hs=>by
  unfold C9q at h;split at h
  ·rename_i ev hev
   split at h
   ·rename_i es1 s1 na1 hrun
    cases h;have ho:ops[k]?=some o:=by have:=h1 0;simpa using this.symm
    have he:evs[k]?=some ev:=by have:=h2 0;simpa using this.symm
    have aA:U3 ops evs s0 (k+1)=He s o ev:=by show (match ops[k]?,evs[k]? with | some o,some ev=>He (U3 ops evs s0 k) o ev | _,_=>_)=_;rw[ho,he,hs]
    obtain⟨h3,h4,h5⟩:=B8i (k:=k+1) (fun j=>by have:=h1 (j+1);simpa [Nat.add_assoc,Nat.add_comm 1 j] using this) (fun j=>by have:=h2 (j+1);simpa [Nat.add_assoc,Nat.add_comm 1 j] using this) hrun aA;refine ⟨by simp[h3],by simpa [Nat.add_assoc,Nat.add_comm 1] using h4,fun j o' ev' ho' hev' hj=>?_⟩;cases j with
    | zero=>
     rw[Nat.add_zero]at ho' hev' ⊢;rw[ho]at ho';rw[he]at hev';cases ho';cases hev';rw[hs];exact ⟨na,hev⟩
    | succ j=>
     have:=h5 j o' ev' (by rw[show k+1+j=k+(j+1) by omega];exact ho') (by rw[show k+1+j=k+(j+1) by omega];exact hev') (by simp at hj;omega);rw[show k+1+j=k+(j+1) by omega]at this;exact this
   ·cases h
  ·cases h
theorem C2e {o:Oper} {cl:List Nat} {j:Nat} (h:(B2m o cl).testBit j=true):∃e∈o.after,Region.binds .any e=true∧(j=e.on∨(cl.getD e.on 0).testBit j=true):=by
 unfold B2m at h;have aA:∀(l:List Edge) (m:Nat),(l.foldl (fun m e=>if Region.binds .any e then m ||| 2 ^ e.on ||| cl.getD e.on 0 else m) m).testBit j=true→
  m.testBit j=true∨∃e∈l,Region.binds .any e=true∧(j=e.on∨(cl.getD e.on 0).testBit j=true):=by
  intro l;induction l with
  | nil=>intro m h;exact .inl h
  | cons e l ih=>
   intro m h;simp only[List.foldl_cons]at h;rcases ih _ h with h1 | ⟨e',he',h1⟩
   ·split at h1
    ·rename_i hb
     simp only[Nat.testBit_or,Nat.testBit_two_pow,Bool.or_eq_true,decide_eq_true_eq]at h1;rcases h1 with (h1 | h1) | h1
     ·exact .inl h1
     ·exact .inr ⟨e,by simp,hb,.inl h1.symm⟩
     ·exact .inr ⟨e,by simp,hb,.inr h1⟩
    ·exact .inl h1
   ·exact .inr ⟨e',by simp[he'],h1⟩
 rcases aA _ _ h with h1 | ⟨e,he,h1⟩
 ·simp at h1
 ·exact ⟨e,by simpa using he,h1⟩
def closedB (ops:List Oper) (cl:List Nat):Bool:=ops.zipIdx.all fun (o,i)=>cl.getD i 0==B2m o cl
theorem Mv {cl:List Nat} {D:Nat→Bool} (hin:inOrder ops=true) (hcl:closedB ops cl=true) (hdc:∀i o,ops[i]?=some o→D i=true→∀e∈o.after,Region.binds .any e=true→D e.on=true) :
 ∀(i:Nat) (o:Oper),ops[i]?=some o→(∀e∈o.after,Region.binds .any e=true→D e.on=true)→∀j,(cl.getD i 0).testBit j=true→D j=true:=by
 intro i;induction i using Nat.strongRecOn with
 | _ i ih=>
  intro o ho hp j hj;have h1:=List.all_eq_true.1 hcl (o,i) (by rw[List.mem_zipIdx_iff_getElem?];exact ho);rw[beq_iff_eq]at h1;rw[show cl.getD i 0=B2m o cl from h1]at hj;obtain⟨e,he,hb,h2⟩:=C2e hj;rcases h2 with rfl | h2
  ·exact hp e he hb
  ·have aB:=Ac hin ho e he hb;have aC:=(List.getElem?_eq_some_iff.1 ho).1;have aA:ops[e.on]?=some (ops[e.on]'(by omega)):=List.getElem?_eq_getElem (by omega);exact ih e.on aB _ aA (fun e' he' hb'=>hdc e.on _ aA (hp e he hb) e' he' hb') j h2
end
end
section
def D3o (sup:Nat→List Nat) (ops:List Oper) (s:St) (evs:List SEv):Bool:=
 inOrder ops&&allConf ops evs (closB ops [])&&allOk sup s.σ.length s.h.length ops evs (closB ops [])&&closedB ops (closB ops [])&&ops.length==evs.length
structure Kpt (s : St) (μ : Nat → Nm) (w w' : World) : Prop where
 os:w'.os=w.os
 tape:w'.tape=w.tape
 output:w'.output=w.output
 size:w.heap.size≤w'.heap.size
 block:∀k,k<w.heap.size→(∀b,(s.blk b).isSome=true→(μ b).b≠k)→w'.heap[k]?=w.heap[k]?
def FHeld (Φ:Fcts) (S:World→Prop) (nb:Nat→Bool) (μ:Nat→Nm) (n:Nat) (w:World):Prop:=
 ∃lo hi,(∀base,(∀W,S W→base≤W.heap.size)→base≤lo)∧hi≤w.heap.size∧(∀b,nb b=true→(μ b).b<lo∨hi≤(μ b).b)∧∀W,w.heap.size≤W.heap.size→(∀k,lo≤k→k<hi→W.heap[k]?=w.heap[k]?)→S W→Φ.at n μ W
theorem FHeld.now {Φ:Fcts} {S:World→Prop} {nb:Nat→Bool} {μ:Nat→Nm} {n:Nat} {w:World} (h:FHeld Φ S nb μ n w) (hs:S w):Φ.at n μ w:=
 let ⟨_,_,_,_,_,h4⟩:=h
 h4 w (Nat.le_refl _) (fun _ _ _=>rfl) hs
structure Rel (ρ : List Av) (Φ : Fcts) (S : World → Prop) (s : St) (μ : Nat → Nm) (a : Act) (w : World) : Prop where
 size:a.tmps.size=s.σ.length
 df:a.defers=[]
 tm:∀(t:Nat) x,s.σ[t]?=some x→x.known=true→a.tmps.getD t undef=x.val ρ μ
 bl:∀b T cs,s.blk b=some (T,cs)→Bk w (μ b).b T (cellsL ρ μ cs)
 inj:∀b b',(s.blk b).isSome=true→(s.blk b').isSome=true→(μ b).b=(μ b').b→b=b'
 nT:∀(t:Nat) x,s.σ[t]?=some x→x.okn (fun b=>decide (b<s.h.length))=true
 nB:∀b T cs,s.blk b=some (T,cs)→cs.all (·.okn fun b=>decide (b<s.h.length))=true
 fx:∀n∈s.dy,FHeld Φ S (fun b=>(s.blk b).isSome) μ n w
 dl:∀n∈s.dy,n<s.h.length∧∀m∈Φ.sup n,m<s.h.length
 sk:∀W,Kpt s μ w W→S W
theorem Vj {s:St} {b:Nat} (h:(s.blk b).isSome=true):b<s.h.length:=by
 unfold St.blk at h;rcases Nat.lt_or_ge b s.h.length with h1 | h1
 ·exact h1
 ·rw[List.getElem?_eq_none h1]at h;cases h
section
variable {P : Program} {g : Cfg} {ops : List Oper} {evs : List SEv} {s0 : St} {ρ : List Av}
def wrT (ops:List Oper) (evs:List SEv) (t:Nat) (i:Nat):Option (Option SV):=match ops[i]?,evs[i]? with
 | some o,some ev=>if o.dst=some t then some (some ev.val) else none
 | _,_=>none
def wrB (evs:List SEv) (b:Nat) (i:Nat):Option (Option (TypeId×List Sg)):=match evs[i]? with
 | some ev=>match ev.wb with
  | some x=>if x.1=b then some (some x.2) else none
  | none=>none
 | none=>none
def sD (ops:List Oper) (evs:List SEv) (s0:St) (D:Nat→Bool) (t:Nat):Option SV:=Cg (wrT ops evs t) D ops.length s0.σ[t]?
def hD (ops:List Oper) (evs:List SEv) (s0:St) (D:Nat→Bool) (b:Nat):Option (TypeId×List Sg):=Cg (wrB evs b) D ops.length (s0.blk b)
theorem C7e (s:St) (o:Oper) (ev:SEv):(He s o ev).h.length=s.h.length+1:=by
 unfold He;cases ev.wb with
 | none=>simp
 | some x=>
  obtain⟨b,T,cs⟩:=x;simp only;split<;>simp
theorem B7u (s:St) (o:Oper) (ev:SEv):(He s o ev).σ.length=s.σ.length:=by
 unfold He;cases o.dst<;>simp
theorem Jh (hl:ops.length=evs.length):∀k,k≤ops.length→(U3 ops evs s0 k).h.length=s0.h.length+k∧(U3 ops evs s0 k).σ.length=s0.σ.length
 | 0,_=>⟨rfl,rfl⟩
 | k+1,h=>by
  obtain⟨h1,h2⟩:=Jh hl k (by omega);have ho:ops[k]?=some (ops[k]'(by omega)):=List.getElem?_eq_getElem (by omega);have he:evs[k]?=some (evs[k]'(by omega)):=List.getElem?_eq_getElem (by omega);unfold U3;rw[ho,he];simp only;rw[C7e,B7u,h1,h2];exact ⟨by omega,rfl⟩
def B1l (s:St) (ev:SEv):Prop:=∀x,ev.wb=some x→x.1=s.h.length∨(x.1<s.h.length∧(s.blk x.1).isSome=true)
theorem A8i (hl:ops.length=evs.length) (hok:∀(i:Nat) (o:Oper) (ev:SEv),ops[i]?=some o→evs[i]?=some ev→∀t,o.dst=some t→t<s0.σ.length):∀k,k≤ops.length→∀t:Nat,(U3 ops evs s0 k).σ[t]?=Cg (wrT ops evs t) (fun _=>true) k s0.σ[t]?
 | 0,_,t=>rfl
 | k+1,h,t=>by
  have ih:=A8i hl hok k (by omega) t;have ho:ops[k]?=some (ops[k]'(by omega)):=List.getElem?_eq_getElem (by omega);have he:evs[k]?=some (evs[k]'(by omega)):=List.getElem?_eq_getElem (by omega);obtain⟨_,aA⟩:=Jh (s0:=s0) hl k (by omega);unfold U3 Cg;rw[if_pos rfl,ho,he];simp only;have hw:wrT ops evs t k=if (ops[k]'(by omega)).dst=some t then some (some (evs[k]'(by omega)).val) else none:=by unfold wrT;rw[ho,he]
  rw[hw];unfold He;cases hd:(ops[k]'(by omega)).dst with
  | none=>simp[ih]
  | some d=>
   have aB:=hok k _ _ ho he d hd;simp only[Option.some.injEq];by_cases hdt:d=t
   ·subst hdt;rw[if_pos rfl,List.getElem?_set_self (by rw[aA];exact aB)];rfl
   ·rw[if_neg hdt,List.getElem?_set_ne hdt,ih];rfl
theorem Yt (hl:ops.length=evs.length) (hok:∀(i:Nat) (o:Oper) (ev:SEv),ops[i]?=some o→evs[i]?=some ev→B1l (U3 ops evs s0 i) ev):∀k,k≤ops.length→∀b,(U3 ops evs s0 k).blk b=Cg (wrB evs b) (fun _=>true) k (s0.blk b)
 | 0,_,b=>rfl
 | k+1,h,b=>by
  have ih:=Yt hl hok k (by omega) b;have ho:ops[k]?=some (ops[k]'(by omega)):=List.getElem?_eq_getElem (by omega);have he:evs[k]?=some (evs[k]'(by omega)):=List.getElem?_eq_getElem (by omega);have aC:=hok k _ _ ho he;unfold U3 Cg;rw[if_pos rfl,ho,he];simp only;have hw:wrB evs b k=match (evs[k]'(by omega)).wb with | some x=>if x.1=b then some (some x.2) else none | none=>none:=by
   unfold wrB;rw[he]
  rw[hw];generalize hs:U3 ops evs s0 k=s at *;have aB:∀(u:Option (TypeId×List Sg)) (h':List (Option (TypeId×List Sg))),b≠h'.length→(h'++[u])[b]?.join=h'[b]?.join:=by
   intro u h' aD;rcases Nat.lt_or_ge b h'.length with h1 | h1
   ·rw[List.getElem?_append_left h1]
   ·rw[List.getElem?_append_right h1,List.getElem?_eq_none (l:=h') h1];rw[List.getElem?_eq_none (by simp;omega)]
  have aA:∀h':List (Option (TypeId×List Sg)),(h'++[none])[b]?.join=h'[b]?.join:=by
   intro h';by_cases hb:b=h'.length
   ·subst hb;simp
   ·exact aB _ _ hb
  rw[←ih];unfold He St.blk;cases hx:(evs[k]'(by omega)).wb with
  | none=>simp only[aA];rfl
  | some x=>
   obtain⟨b',T,cs⟩:=x;simp only;rcases aC _ hx with h1 | ⟨h1,h2⟩
   ·simp only at h1;subst h1;rw[if_pos rfl];by_cases hb:s.h.length=b
    ·subst hb;simp
    ·rw[if_neg hb];exact aB _ _ (fun e=>hb e.symm)
   ·simp only at h1 h2;rw[if_neg (by omega)];simp only[aA];by_cases hb:b'=b
    ·subst hb;rw[if_pos rfl];simp[h1]
    ·rw[if_neg hb,List.getElem?_set_ne hb];rfl
structure RInv (P : Program) (Φ : Fcts) (S : World → Prop) (ops : List Oper) (evs : List SEv) (s0 : St) (ρ : List Av) (μ0 : Nat → Nm) (w0 : World) (D : Nat → Bool) (μ : Nat → Nm) (a : Act) (w : World) : Prop where
 dc:∀i o,ops[i]?=some o→D i=true→∀e∈o.after,Region.binds .any e=true→D e.on=true
 size:a.tmps.size=s0.σ.length
 df:a.defers=[]
 tm:∀t x,sD ops evs s0 D t=some x→x.known=true→a.tmps.getD t undef=x.val ρ μ
 bl:∀b T cs,hD ops evs s0 D b=some (T,cs)→Bk w (μ b).b T (cellsL ρ μ cs)
 inj:∀b b',(hD ops evs s0 D b).isSome=true→(hD ops evs s0 D b').isSome=true→(μ b).b=(μ b').b→b=b'
 nT:∀t x,sD ops evs s0 D t=some x→x.okn (fun b=>decide (b<s0.h.length)||D (b-s0.h.length))=true
 nB:∀b T cs,hD ops evs s0 D b=some (T,cs)→cs.all (·.okn fun b=>decide (b<s0.h.length)||D (b-s0.h.length))=true
 kp:Kpt s0 μ0 w0 w
 old:∀b,b<s0.h.length→μ b=μ0 b
 new:∀b,(hD ops evs s0 D b).isSome=true→s0.h.length≤b→w0.heap.size≤(μ b).b
 ini:∀b,(hD ops evs s0 D b).isSome=true→b<s0.h.length→(s0.blk b).isSome=true
 nmD:∀b,(hD ops evs s0 D b).isSome=true→b<s0.h.length∨D (b-s0.h.length)=true
 fx0:∀n∈s0.dy,(n<s0.h.length∧∀m∈Φ.sup n,m<s0.h.length)∧FHeld Φ S (fun b=>(hD ops evs s0 D b).isSome) μ n w
 fx1:∀(i:Nat) (ev:SEv),evs[i]?=some ev→ev.dy=true→D i=true→(∀m∈Φ.sup (s0.h.length+i),(decide (m<s0.h.length)||D (m-s0.h.length))=true)∧FHeld Φ S (fun b=>(hD ops evs s0 D b).isSome) μ (s0.h.length+i) w
 sk:∀W,Kpt s0 μ0 w0 W→S W
theorem Kpt.trans_below {s:St} {μ:Nat→Nm} {w w' w'':World} (h:Kpt s μ w w') (hb:Below w'.heap.size w' w''):Kpt s μ w w'':=
 ⟨hb.os.trans h.os,hb.tape.trans h.tape,hb.output.trans h.output,Nat.le_trans h.size hb.size,fun k hk hn=>(hb.block k (Nat.lt_of_lt_of_le hk h.size)).trans (h.block k hk hn)⟩
theorem Kpt.trans_grown {s:St} {μ:Nat→Nm} {w w' w'':World} {r:Nat} (h:Kpt s μ w w') (hb:w'.grownBy w'' (some r)) (hr:w.heap.size≤r∨∃b,(s.blk b).isSome=true∧(μ b).b=r):Kpt s μ w w'':=
 ⟨hb.os.trans h.os,hb.tape.trans h.tape,hb.output.trans h.output,Nat.le_trans h.size hb.size,fun k hk hn=>(hb.block k (Nat.lt_of_lt_of_le hk h.size) (fun e=>by
  injection e with e;rcases hr with hr | ⟨b,h1,h2⟩
  ·omega
  ·exact hn b h1 (by omega))).trans (h.block k hk hn)⟩
theorem Lh {cl:List Nat} (h:allConf ops evs cl=true) {i j:Nat} {oi oj:Oper} {ei ej:SEv} (hij:i<j) (hoi:ops[i]?=some oi) (hoj:ops[j]?=some oj) (hei:evs[i]?=some ei) (hej:evs[j]?=some ej) (hc:Wi ops oi oj ei ej=true):(cl.getD j 0).testBit i=true:=by
 have hj:=(List.getElem?_eq_some_iff.1 hoj).1;have h1:=List.all_eq_true.1 (List.all_eq_true.1 h j (List.mem_range.2 hj)) i (List.mem_range.2 hij);simp only[hoi,hoj,hei,hej,hc,Bool.not_true,Bool.false_or]at h1;exact h1
theorem B1y {sup:Nat→List Nat} {N N0:Nat} {cl:List Nat} (h:allOk sup N N0 ops evs cl=true) {i:Nat} {o:Oper} {ev:SEv} (ho:ops[i]?=some o) (he:evs[i]?=some ev):D3z sup N N0 i (cl.getD i 0) o ev=true:=by
 have hi:=(List.getElem?_eq_some_iff.1 ho).1;have h1:=List.all_eq_true.1 h i (List.mem_range.2 hi);simp only[ho,he]at h1;exact h1
theorem Oh {N N':Nat→Bool} (h:∀b,N b=true→N' b=true):∀ {l:List Sg},l.all (·.okn N)=true→l.all (·.okn N')=true:=by
 intro l hl;refine List.all_eq_true.2 fun x hx=>?_;have:=List.all_eq_true.1 hl x hx;cases x<;>first | rfl | exact h _ this
theorem SV.okn_mono {N N':Nat→Bool} (h:∀b,N b=true→N' b=true) {x:SV} (hx:x.okn N=true):x.okn N'=true:=by
 cases x with
 | v a l=>exact Go.Proofs.YtdfpoofbgjilgaaGreat.Oh h hx
 | tup l=>exact List.all_eq_true.2 fun y hy=>Go.Proofs.YtdfpoofbgjilgaaGreat.Oh h (List.all_eq_true.1 hx y hy)
 | any=>rfl
end
end
section
variable {P : Program} {g : Cfg} {S : World → Prop} {ops : List Oper} {evs : List SEv} {s0 : St} {ρ : List Av} {μ0 : Nat → Nm} {w0 : World} {D : Nat → Bool} {μ : Nat → Nm} {a : Act} {w : World} {i : Nat} {o : Oper} {ev : SEv}
theorem A6e {x:SV} {b:Bool} (h:Ry ρ x=some b):x.known=true:=by
 cases x with
 | v a l=>rfl
 | tup l=>rfl
 | any=>cases h
structure RegOk (sup : Nat → List Nat) (ops : List Oper) (s0 : St) (evs : List SEv) : Prop where
 inn:inOrder ops=true
 conf:allConf ops evs (closB ops [])=true
 ok:allOk sup s0.σ.length s0.h.length ops evs (closB ops [])=true
 clo:closedB ops (closB ops [])=true
 len:ops.length=evs.length
theorem D3y (h:D3o g.f.sup ops s0 evs=true):RegOk g.f.sup ops s0 evs:=by
 unfold D3o at h;simp only[Bool.and_eq_true,beq_iff_eq]at h;exact ⟨h.1.1.1.1,h.1.1.1.2,h.1.1.2,h.1.2,h.2⟩
theorem RegOk.dstlt (h:RegOk g.f.sup ops s0 evs):∀(i:Nat) (o:Oper) (ev:SEv),ops[i]?=some o→evs[i]?=some ev→∀t,o.dst=some t→t<s0.σ.length:=by
 intro i o ev ho he t ht;have:=B1y h.ok ho he;unfold D3z at this;simp only[Bool.and_eq_true,ht,decide_eq_true_eq]at this;exact this.2.2
theorem C7u {α:Type} {wr:Nat→Option α} {x:α} (hr:RegOk g.f.sup ops s0 evs) (hI:RInv P g.f S ops evs s0 ρ μ0 w0 D μ a w) (ho:ops[i]?=some o) (he:evs[i]?=some ev) (hi:D i=false) (hp:∀e∈o.after,Region.binds .any e=true→D e.on=true)
 (hw:∀j oj ej,ops[j]?=some oj→evs[j]?=some ej→wr j≠none→Wi ops oj o ej ev=true∧Wi ops o oj ev ej=true) :
 Cg wr D ops.length x=Cg wr (fun _=>true) i x:=by
 have aD:=(List.getElem?_eq_some_iff.1 ho).1;rw[←Xc (n:=ops.length) (by omega)];refine Dh fun j hj hne=>?_;apply Classical.byContradiction;intro hn;have aA:ops[j]?=some ops[j]:=List.getElem?_eq_getElem hj;have aB:evs[j]?=some (evs[j]'(by rw[←hr.len];exact hj)):=List.getElem?_eq_getElem _;obtain⟨h1,h2⟩:=hw j _ _ aA aB hn;by_cases hji:j<i
 ·have h3:=Mv hr.inn hr.clo hI.dc i o ho hp j (Lh hr.conf hji aA ho aB he h1);simp[hji,h3]at hne
 ·have h3:D j=true:=by
   cases hd:D j with
   | true=>rfl
   | false=>simp[hji,hd]at hne
  have aC:i<j:=by
   have:i≠j:=fun e=>by subst e;rw[hi]at h3;cases h3
   omega
  have h4:=Mv hr.inn hr.clo hI.dc j _ aA (hI.dc j _ aA h3) i (Lh hr.conf aC ho aA he aB h2);rw[hi]at h4;cases h4
theorem C5w (hr:RegOk g.f.sup ops s0 evs) (hI:RInv P g.f S ops evs s0 ρ μ0 w0 D μ a w) (ho:ops[i]?=some o) (he:evs[i]?=some ev) (hi:D i=false) (hp:∀e∈o.after,Region.binds .any e=true→D e.on=true)
 {t:Nat} (ht:t∈A5z ops o):sD ops evs s0 D t=(U3 ops evs s0 i).σ[t]?:=by
 have aA:=(List.getElem?_eq_some_iff.1 ho).1;rw[A8i hr.len hr.dstlt i (by omega)];refine C7u hr hI ho he hi hp fun j oj ej hoj hej hn=>?_;have hd:oj.dst=some t:=by
  unfold wrT at hn;rw[hoj,hej]at hn;simp only at hn;split at hn
  ·assumption
  ·exact absurd rfl hn
 unfold Wi;rw[hd];simp[ht]
theorem A4c (hr:RegOk g.f.sup ops s0 evs) (hwb:∀(i:Nat) (o:Oper) (ev:SEv),ops[i]?=some o→evs[i]?=some ev→B1l (U3 ops evs s0 i) ev) (hI:RInv P g.f S ops evs s0 ρ μ0 w0 D μ a w) (ho:ops[i]?=some o) (he:evs[i]?=some ev) (hi:D i=false)
 (hp:∀e∈o.after,Region.binds .any e=true→D e.on=true) {b:Nat} (hb:b∈ev.rb):hD ops evs s0 D b=(U3 ops evs s0 i).blk b:=by
 have aA:=(List.getElem?_eq_some_iff.1 ho).1;rw[Yt hr.len hwb i (by omega)];refine C7u hr hI ho he hi hp fun j oj ej hoj hej hn=>?_;have hd:∃x,ej.wb=some x∧x.1=b:=by
  unfold wrB at hn;rw[hej]at hn;simp only at hn;split at hn
  ·rename_i x hx
   split at hn
   ·rename_i h1;exact ⟨x,hx,h1⟩
   ·exact absurd rfl hn
  ·exact absurd rfl hn
 obtain⟨x,hx,rfl⟩:=hd;unfold Wi;rw[hx];simp[hb]
theorem C2o (hr:RegOk g.f.sup ops s0 evs) (hI:RInv P g.f S ops evs s0 ρ μ0 w0 D μ a w) (ho:ops[i]?=some o) (he:evs[i]?=some ev) (hi:D i=false) (hp:∀e∈o.after,Region.binds .any e=true→D e.on=true)
 {b:Bool} (hb:B8h ρ ops (U3 ops evs s0 i) o=some b):Region.wanted o (yielded ops.toArray a.tmps)=b:=by
 unfold B8h at hb;unfold Region.wanted;cases hg:o.guard with
 | none=>rw[hg]at hb;simp only[Option.some.injEq]at hb;exact hb
 | some jw=>
  obtain⟨j,aA⟩:=jw;rw[hg]at hb;simp only at hb ⊢;cases hd:(ops[j]?).bind (·.dst) with
  | none=>rw[hd]at hb;cases hb
  | some t=>
   rw[hd]at hb;simp only at hb;have ht:t∈A5z ops o:=by
    unfold A5z Oper.looksAt;refine List.mem_append_right _ ?_;rw[hg];simp[hd]
   have h1:=C5w hr hI ho he hi hp ht;split at hb
   ·rename_i u hu
    have h2:a.tmps.getD t undef=.bool u:=by
     cases hx:(U3 ops evs s0 i).σ[t]? with
     | none=>rw[hx]at hu;cases hu
     | some x=>rw[hx]at hu h1;exact (hI.tm t _ h1 (A6e hu)).trans (Lo hu)
    have h3:a.tmps[t]?=some (.bool u):=by
     rw[Array.getD_eq_getD_getElem?]at h2;cases h4:a.tmps[t]? with
     | none=>rw[h4]at h2;cases h2
     | some z=>rw[h4]at h2;simp only[Option.getD_some]at h2;rw[h2]
    unfold yielded;simp only[List.getElem?_toArray,hd,Option.bind_some,h3];simp only[Option.some.injEq]at hb;rw[←hb];cases u<;>cases aA<;>rfl
   ·split at hb
    ·rename_i vs hu
     have h2:a.tmps.getD t undef=.tuple vs:=hI.tm t _ (h1.trans hu) rfl;have h3:yielded ops.toArray a.tmps j=none:=by
      unfold yielded;simp only[List.getElem?_toArray,hd,Option.bind_some];rw[Array.getD_eq_getD_getElem?]at h2;cases h4:a.tmps[t]? with
      | none=>rfl
      | some z=>rw[h4]at h2;simp only[Option.getD_some]at h2;rw[h2]
     rw[h3];simp only[Option.some.injEq]at hb;rw[←hb];rfl
    ·cases hb
theorem A8p {N0 cl b:Nat} (h:A5p N0 i cl b=true) (hc:∀j,cl.testBit j=true→D j=true):(decide (b<N0)||Db D i (b-N0))=true:=by
 unfold A5p at h;simp only[Bool.or_eq_true,decide_eq_true_eq,beq_iff_eq]at h ⊢;rcases h with (h | h) | h
 ·exact .inl h
 ·subst h;exact .inr (by simp[Db])
 ·exact .inr (by simp[Db,hc _ h])
theorem A7s {D:Nat→Bool} {N0 b:Nat} (h:(decide (b<N0)||D (b-N0))=true):(decide (b<N0)||Db D i (b-N0))=true:=by
 simp only[Bool.or_eq_true]at h ⊢;rcases h with h | h
 ·exact .inl h
 ·exact .inr (by simp[Db,h])
theorem A5j (ho:ops[i]?=some o) {t:Nat} (ht:o.dst≠some t):sD ops evs s0 (Db D i) t=sD ops evs s0 D t:=by
 refine Mx ?_;unfold wrT;rw[ho];cases evs[i]? with
 | none=>rfl
 | some ev=>simp only;rw[if_neg ht]
theorem Dg (he:evs[i]?=some ev) {b:Nat} (hb:∀x,ev.wb=some x→x.1≠b):hD ops evs s0 (Db D i) b=hD ops evs s0 D b:=by
 refine Mx ?_;unfold wrB;rw[he];simp only;cases hx:ev.wb with
 | none=>rfl
 | some x=>simp only;rw[if_neg (hb x hx)]
theorem A5e (hr:RegOk g.f.sup ops s0 evs) (hI:RInv P g.f S ops evs s0 ρ μ0 w0 D μ a w) (ho:ops[i]?=some o) (he:evs[i]?=some ev) (hi:D i=false) {t:Nat} (ht:o.dst=some t):sD ops evs s0 (Db D i) t=some ev.val:=by
 have aC:=(List.getElem?_eq_some_iff.1 ho).1;refine Qs (i:=i) (v:=some ev.val) (by unfold wrT;rw[ho,he];simp only;rw[if_pos ht]) (by simp[Db]) aC fun j hij hj hd=>?_;apply Classical.byContradiction;intro hn;have aA:ops[j]?=some ops[j]:=List.getElem?_eq_getElem hj;have aB:evs[j]?=some (evs[j]'(by rw[←hr.len];exact hj)):=List.getElem?_eq_getElem _;have h3:D j=true:=by
  simp only[Db,Bool.or_eq_true,decide_eq_true_eq]at hd;rcases hd with h | h
  ·omega
  ·exact h
 have aD:ops[j].dst=some t:=by
  unfold wrT at hn;rw[aA,aB]at hn;simp only at hn;split at hn
  ·assumption
  ·exact absurd rfl hn
 have h4:=Mv hr.inn hr.clo hI.dc j _ aA (hI.dc j _ aA h3) i (Lh hr.conf hij ho aA he aB (by unfold Wi;rw[ht,aD];simp));rw[hi]at h4;cases h4
theorem A3q (hr:RegOk g.f.sup ops s0 evs) (hI:RInv P g.f S ops evs s0 ρ μ0 w0 D μ a w) (ho:ops[i]?=some o) (he:evs[i]?=some ev) (hi:D i=false) {b:Nat} {T:TypeId} {cs:List Sg} (hb:ev.wb=some (b,T,cs)):hD ops evs s0 (Db D i) b=some (T,cs):=by
 have aC:=(List.getElem?_eq_some_iff.1 ho).1;refine Qs (i:=i) (v:=some (T,cs)) (by unfold wrB;rw[he];simp[hb]) (by simp[Db]) aC fun j hij hj hd=>?_;apply Classical.byContradiction;intro hn;have aA:ops[j]?=some ops[j]:=List.getElem?_eq_getElem hj;have aB:evs[j]?=some (evs[j]'(by rw[←hr.len];exact hj)):=List.getElem?_eq_getElem _;have h3:D j=true:=by
  simp only[Db,Bool.or_eq_true,decide_eq_true_eq]at hd;rcases hd with h | h
  ·omega
  ·exact h
 have aD:∃x,(evs[j]'(by rw[←hr.len];exact hj)).wb=some x∧x.1=b:=by
  unfold wrB at hn;rw[aB]at hn;simp only at hn;split at hn
  ·rename_i x hx
   split at hn
   ·rename_i h1;exact ⟨x,hx,h1⟩
   ·exact absurd rfl hn
  ·exact absurd rfl hn
 obtain⟨x,hx,aE⟩:=aD;have h4:=Mv hr.inn hr.clo hI.dc j _ aA (hI.dc j _ aA h3) i (Lh hr.conf hij ho aA he aB (by unfold Wi;rw[hb,hx];simp[aE]));rw[hi]at h4;cases h4
end
end Go.Proofs.YtdfpoofbgjilgaaGreat
