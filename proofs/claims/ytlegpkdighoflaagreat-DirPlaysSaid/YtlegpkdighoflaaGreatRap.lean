/- A part of the proof of DirPlays. -/
import Derived.Test.YtlegpkdighoflaaGreatRao
set_option linter.unusedVariables false
set_option linter.unusedSimpArgs false
set_option maxRecDepth 100000
set_option maxHeartbeats 40000000
namespace Go.Proofs.YtlegpkdighoflaaGreat
open Go Go.RowKit Sh
section
def Gl {α:Type} (wr:Nat→Option α) (D:Nat→Bool):Nat→α→α
 | 0,x=>x
 | n+1,x=>if D n=true then (wr n).getD (Gl wr D n x) else Gl wr D n x
theorem Hk {α:Type} {wr:Nat→Option α} {D E:Nat→Bool}:∀ {n:Nat} {x:α},(∀j,j<n→D j≠E j→wr j=none)→Gl wr D n x=Gl wr E n x
 | 0,_,_=>rfl
 | n+1,x,h=>by
  have ih:=Hk (n:=n) (x:=x) fun j hj=>h j (by omega);unfold Gl;by_cases hd:D n=E n
  ·rw[hd,ih]
  ·rw[h n (by omega) hd,ih];simp
theorem Vy {α:Type} {wr:Nat→Option α} {D:Nat→Bool} {i:Nat} {v:α} (hv:wr i=some v) (hi:D i=true):∀ {n:Nat} {x:α},i<n→(∀j,i<j→j<n→D j=true→wr j=none)→Gl wr D n x=v
 | 0,_,h,_=>by omega
 | n+1,x,h,hj=>by
  unfold Gl;by_cases hn:i=n
  ·subst hn;rw[if_pos hi,hv];rfl
  ·have ih:=Vy hv hi (n:=n) (x:=x) (by omega) fun j h1 h2=>hj j h1 (by omega);split
   ·rename_i hd;rw[hj n (by omega) (by omega) hd,ih];rfl
   ·exact ih
def Jj (D:Nat→Bool) (i:Nat):Nat→Bool:=fun j=>decide (j=i)||D j
theorem Ta {α:Type} {wr:Nat→Option α} {D:Nat→Bool} {i n:Nat} {x:α} (h:wr i=none):Gl wr (Jj D i) n x=Gl wr D n x:=
 Hk fun j _ hd=>by
  by_cases hj:j=i
  ·subst hj;exact h
  ·exact absurd (by simp[Jj,hj]) hd
theorem A0t {α : Type} {wr : Nat → Option α} {i : Nat} {x : α} : ∀ {n : Nat}, i ≤ n → Gl wr (fun j => decide (j < i)) n x = Gl wr (fun _ => true) i x
  | 0, h => by have : i = 0 := by omega
               subst this; rfl
  | n + 1, h => by
    by_cases hn : i = n + 1
    · subst hn
      exact Hk fun j hj hd => absurd (by simp [hj]) hd
    · rw [← A0t (n := n) (by omega)]
      conv => lhs; unfold Gl
      rw [if_neg (by simp; omega)]
def Na (s : St) (o : Oper) (ev : SEv) : St :=
  { σ := match o.dst with | some t => s.σ.set t ev.val | none => s.σ
    h := match ev.wb with
      | some (b, T, cs) => if b = s.h.length then s.h ++ [some (T, cs)] else s.h.set b (some (T, cs)) ++ [none]
      | none => s.h ++ [none] }
def C2n (ρ:List Av) (ops:List Oper) (s:St) (o:Oper):Option Bool:=match o.guard with
 | none=>some true
 | some (j,want)=>match (ops[j]?).bind (·.dst) with
  | some t=>match (s.σ[t]?).bind (Zu ρ) with
   | some b=>some (b==want)
   | none=>match s.σ[t]? with
    | some (.v false [.c (.tuple _)])=>some false
    | _=>none
  | none=>none
def E7v (s:St) (nm:Nat) (ev:SEv):Bool:=match ev.wb with
 | some x=>x.1==nm||(s.blk x.1).isSome
 | none=>true
def B6o (P:Program) (g:TypeId→Option (List Nat)) (ρ:List Av) (ops:List Oper) (nm na:Nat) (s:St) (o:Oper):Option SEv:=
 match C2n ρ ops s o with
 | some true=>match C0u P g ρ nm na s o with
  | some ev=>if E7v s nm ev=true then some ev else none
  | none=>none
 | some false=>some { val:=.v false [.c undef],na }
 | none=>none
def D1d (P:Program) (g:TypeId→Option (List Nat)) (ρ:List Av) (ops:List Oper):List Oper→St→Nat→Option (List SEv×St×Nat)
 | [],s,na=>some ([],s,na)
 | o::os,s,na=>
  match B6o P g ρ ops s.h.length na s o with
  | some ev=>match D1d P g ρ ops os (Na s o ev) ev.na with
   | some (evs,s',na')=>some (ev::evs,s',na')
   | none=>none
  | none=>none
def Ey (ops:List Oper) (evs:List SEv) (s:St):Nat→St
 | 0=>s
 | k+1=>match ops[k]?,evs[k]? with
  | some o,some ev=>Na (Ey ops evs s k) o ev
  | _,_=>Ey ops evs s k
def B1v (o:Oper) (cl:List Nat):Nat:=o.after.toList.foldl (fun m e=>if Region.binds .any e then m ||| 2 ^ e.on ||| cl.getD e.on 0 else m) 0
def closB:List Oper→List Nat→List Nat
 | [],cl=>cl
 | o::os,cl=>closB os (cl++[B1v o cl])
def B1k (ops:List Oper) (o:Oper):List Tmp:=o.looksAt ops.toArray
def A0f (ops:List Oper) (oi oj:Oper) (ei ej:SEv):Bool:=
 (match oi.dst with | some d=>(B1k ops oj).contains d||oj.dst==some d | none=>false) ||
 (match oj.dst with | some d=>(B1k ops oi).contains d | none=>false) ||
 (match ei.wb with | some x=>ej.rb.contains x.1||(match ej.wb with | some y=>x.1==y.1 | none=>false) | none=>false) ||
 (match ej.wb with | some y=>ei.rb.contains y.1 | none=>false)
def C1y (N0 i cl b:Nat):Bool:=decide (b<N0)||(b==N0+i)||cl.testBit (b-N0)
def D7g (N N0 i cl:Nat) (o:Oper) (ev:SEv):Bool:=
 ev.val.okn (C1y N0 i cl)&&(match ev.wb with | some x=>x.2.2.all (·.okn (C1y N0 i cl)) | none=>true)&&(match o.dst with | some t=>decide (t<N) | none=>true)
def allConf (ops:List Oper) (evs:List SEv) (cl:List Nat):Bool:=
 (List.range ops.length).all fun j=>(List.range j).all fun i=>match ops[i]?,ops[j]?,evs[i]?,evs[j]? with
  | some oi,some oj,some ei,some ej=>!A0f ops oi oj ei ej||(cl.getD j 0).testBit i
  | _,_,_,_=>false
def allOk (N N0:Nat) (ops:List Oper) (evs:List SEv) (cl:List Nat):Bool:=
 (List.range ops.length).all fun i=>match ops[i]?,evs[i]? with
  | some o,some ev=>D7g N N0 i (cl.getD i 0) o ev
  | _,_=>false
section
variable {P : Program} {g : TypeId → Option (List Nat)} {ops : List Oper} {evs : List SEv} {s0 s : St} {ρ : List Av}
theorem C1a:∀ {os:List Oper} {k:Nat} {s s':St} {na na':Nat} {es:List SEv},(∀j,os[j]?=ops[k+j]?)→(∀j,es[j]?=evs[k+j]?)→D1d P g ρ ops os s na=some (es,s',na')→Ey ops evs s0 k=s→
 es.length=os.length∧Ey ops evs s0 (k+os.length)=s'∧∀j o ev,ops[k+j]?=some o→evs[k+j]?=some ev→j<os.length→∃m,B6o P g ρ ops (Ey ops evs s0 (k+j)).h.length m (Ey ops evs s0 (k+j)) o=some ev
 | [],k,s,s',na,na',es,h1,h2,h,hs=>by
  cases h;exact ⟨rfl,hs,fun j o ev _ _ hj=>by simp at hj⟩
 | o::os,k,s,s',na,na',es,h1,h2,h,hs=>by
  unfold D1d at h;split at h
  ·rename_i ev hev
   split at h
   ·rename_i es1 s1 na1 hrun
    cases h;have ho:ops[k]?=some o:=by have:=h1 0;simpa using this.symm
    have he:evs[k]?=some ev:=by have:=h2 0;simpa using this.symm
    have aA:Ey ops evs s0 (k+1)=Na s o ev:=by show (match ops[k]?,evs[k]? with | some o,some ev=>Na (Ey ops evs s0 k) o ev | _,_=>_)=_;rw[ho,he,hs]
    obtain⟨h3,h4,h5⟩:=C1a (k:=k+1) (fun j=>by have:=h1 (j+1);simpa [Nat.add_assoc,Nat.add_comm 1 j] using this) (fun j=>by have:=h2 (j+1);simpa [Nat.add_assoc,Nat.add_comm 1 j] using this) hrun aA;refine ⟨by simp[h3],by simpa [Nat.add_assoc,Nat.add_comm 1] using h4,fun j o' ev' ho' hev' hj=>?_⟩;cases j with
    | zero=>
     rw[Nat.add_zero]at ho' hev' ⊢;rw[ho]at ho';rw[he]at hev';cases ho';cases hev';rw[hs];exact ⟨na,hev⟩
    | succ j=>
     have:=h5 j o' ev' (by rw[show k+1+j=k+(j+1) by omega];exact ho') (by rw[show k+1+j=k+(j+1) by omega];exact hev') (by simp at hj;omega);rw[show k+1+j=k+(j+1) by omega]at this;exact this
   ·cases h
  ·cases h
theorem C7a {o:Oper} {cl:List Nat} {j:Nat} (h:(B1v o cl).testBit j=true):∃e∈o.after,Region.binds .any e=true∧(j=e.on∨(cl.getD e.on 0).testBit j=true):=by
 unfold B1v at h;have aA:∀(l:List Edge) (m:Nat),(l.foldl (fun m e=>if Region.binds .any e then m ||| 2 ^ e.on ||| cl.getD e.on 0 else m) m).testBit j=true→
  m.testBit j=true∨∃e∈l,Region.binds .any e=true∧(j=e.on∨(cl.getD e.on 0).testBit j=true):=by
  intro l;induction l with
  | nil=>intro m h;exact .inl h
  | cons e l ih=>
   intro m h;simp only[List.foldl_cons]at h;rcases ih _ h with h1 | ⟨e',he',h1⟩
   ·split at h1
    ·rename_i hb
     simp only[Nat.testBit_or,Nat.testBit_two_pow,Bool.or_eq_true,decide_eq_true_eq]at h1;rcases h1 with (h1 | h1) | h1
     ·exact .inl h1
     ·exact .inr ⟨e,by simp,hb,.inl h1.symm⟩
     ·exact .inr ⟨e,by simp,hb,.inr h1⟩
    ·exact .inl h1
   ·exact .inr ⟨e',by simp[he'],h1⟩
 rcases aA _ _ h with h1 | ⟨e,he,h1⟩
 ·simp at h1
 ·exact ⟨e,by simpa using he,h1⟩
def closedB (ops:List Oper) (cl:List Nat):Bool:=ops.zipIdx.all fun (o,i)=>cl.getD i 0==B1v o cl
theorem Qz {cl:List Nat} {D:Nat→Bool} (hin:inOrder ops=true) (hcl:closedB ops cl=true) (hdc:∀i o,ops[i]?=some o→D i=true→∀e∈o.after,Region.binds .any e=true→D e.on=true) :
 ∀(i:Nat) (o:Oper),ops[i]?=some o→(∀e∈o.after,Region.binds .any e=true→D e.on=true)→∀j,(cl.getD i 0).testBit j=true→D j=true:=by
 intro i;induction i using Nat.strongRecOn with
 | _ i ih=>
  intro o ho hp j hj;have h1:=List.all_eq_true.1 hcl (o,i) (by rw[List.mem_zipIdx_iff_getElem?];exact ho);rw[beq_iff_eq]at h1;rw[show cl.getD i 0=B1v o cl from h1]at hj;obtain⟨e,he,hb,h2⟩:=C7a hj;rcases h2 with rfl | h2
  ·exact hp e he hb
  ·have aB:=Fq hin ho e he hb;have aC:=(List.getElem?_eq_some_iff.1 ho).1;have aA:ops[e.on]?=some (ops[e.on]'(by omega)):=List.getElem?_eq_getElem (by omega);exact ih e.on aB _ aA (fun e' he' hb'=>hdc e.on _ aA (hp e he hb) e' he' hb') j h2
end
end
section
def D8u (ops:List Oper) (s:St) (evs:List SEv):Bool:=
 inOrder ops&&allConf ops evs (closB ops [])&&allOk s.σ.length s.h.length ops evs (closB ops [])&&closedB ops (closB ops [])&&ops.length==evs.length
structure Kpt (s : St) (μ : Nat → Nat) (w w' : World) : Prop where
 os:w'.os=w.os
 tape:w'.tape=w.tape
 output:w'.output=w.output
 size:w.heap.size≤w'.heap.size
 block:∀k,k<w.heap.size→(∀b,(s.blk b).isSome=true→μ b≠k)→w'.heap[k]?=w.heap[k]?
structure Rel (ρ : List Av) (s : St) (μ : Nat → Nat) (a : Act) (w : World) : Prop where
 size:a.tmps.size=s.σ.length
 df:a.defers=[]
 tm:∀(t:Nat) x,s.σ[t]?=some x→a.tmps.getD t undef=x.val ρ μ
 bl:∀b T cs,s.blk b=some (T,cs)→Bk w (μ b) T (cellsL ρ μ cs)
 inj:∀b b',(s.blk b).isSome=true→(s.blk b').isSome=true→μ b=μ b'→b=b'
 nT:∀(t:Nat) x,s.σ[t]?=some x→x.okn (fun b=>decide (b<s.h.length))=true
 nB:∀b T cs,s.blk b=some (T,cs)→cs.all (·.okn fun b=>decide (b<s.h.length))=true
theorem A9z {s:St} {b:Nat} (h:(s.blk b).isSome=true):b<s.h.length:=by
 unfold St.blk at h;rcases Nat.lt_or_ge b s.h.length with h1 | h1
 ·exact h1
 ·rw[List.getElem?_eq_none h1]at h;cases h
section
variable {P : Program} {g : TypeId → Option (List Nat)} {ops : List Oper} {evs : List SEv} {s0 : St} {ρ : List Av}
def wrT (ops:List Oper) (evs:List SEv) (t:Nat) (i:Nat):Option (Option SV):=match ops[i]?,evs[i]? with
 | some o,some ev=>if o.dst=some t then some (some ev.val) else none
 | _,_=>none
def wrB (evs:List SEv) (b:Nat) (i:Nat):Option (Option (TypeId×List Sg)):=match evs[i]? with
 | some ev=>match ev.wb with
  | some x=>if x.1=b then some (some x.2) else none
  | none=>none
 | none=>none
def sD (ops:List Oper) (evs:List SEv) (s0:St) (D:Nat→Bool) (t:Nat):Option SV:=Gl (wrT ops evs t) D ops.length s0.σ[t]?
def hD (ops:List Oper) (evs:List SEv) (s0:St) (D:Nat→Bool) (b:Nat):Option (TypeId×List Sg):=Gl (wrB evs b) D ops.length (s0.blk b)
theorem D1f (s:St) (o:Oper) (ev:SEv):(Na s o ev).h.length=s.h.length+1:=by
 unfold Na;cases ev.wb with
 | none=>simp
 | some x=>
  obtain⟨b,T,cs⟩:=x;simp only;split<;>simp
theorem B6x (s:St) (o:Oper) (ev:SEv):(Na s o ev).σ.length=s.σ.length:=by
 unfold Na;cases o.dst<;>simp
theorem Sc (hl:ops.length=evs.length):∀k,k≤ops.length→(Ey ops evs s0 k).h.length=s0.h.length+k∧(Ey ops evs s0 k).σ.length=s0.σ.length
 | 0,_=>⟨rfl,rfl⟩
 | k+1,h=>by
  obtain⟨h1,h2⟩:=Sc hl k (by omega);have ho:ops[k]?=some (ops[k]'(by omega)):=List.getElem?_eq_getElem (by omega);have he:evs[k]?=some (evs[k]'(by omega)):=List.getElem?_eq_getElem (by omega);unfold Ey;rw[ho,he];simp only;rw[D1f,B6x,h1,h2];exact ⟨by omega,rfl⟩
def B7n (s:St) (ev:SEv):Prop:=∀x,ev.wb=some x→x.1=s.h.length∨(x.1<s.h.length∧(s.blk x.1).isSome=true)
theorem A9r (hl:ops.length=evs.length) (hok:∀(i:Nat) (o:Oper) (ev:SEv),ops[i]?=some o→evs[i]?=some ev→∀t,o.dst=some t→t<s0.σ.length):∀k,k≤ops.length→∀t:Nat,(Ey ops evs s0 k).σ[t]?=Gl (wrT ops evs t) (fun _=>true) k s0.σ[t]?
 | 0,_,t=>rfl
 | k+1,h,t=>by
  have ih:=A9r hl hok k (by omega) t;have ho:ops[k]?=some (ops[k]'(by omega)):=List.getElem?_eq_getElem (by omega);have he:evs[k]?=some (evs[k]'(by omega)):=List.getElem?_eq_getElem (by omega);obtain⟨_,aA⟩:=Sc (s0:=s0) hl k (by omega);unfold Ey Gl;rw[if_pos rfl,ho,he];simp only;have hw:wrT ops evs t k=if (ops[k]'(by omega)).dst=some t then some (some (evs[k]'(by omega)).val) else none:=by unfold wrT;rw[ho,he]
  rw[hw];unfold Na;cases hd:(ops[k]'(by omega)).dst with
  | none=>simp[ih]
  | some d=>
   have aB:=hok k _ _ ho he d hd;simp only[Option.some.injEq];by_cases hdt:d=t
   ·subst hdt;rw[if_pos rfl,List.getElem?_set_self (by rw[aA];exact aB)];rfl
   ·rw[if_neg hdt,List.getElem?_set_ne hdt,ih];rfl
theorem A5e (hl:ops.length=evs.length) (hok:∀(i:Nat) (o:Oper) (ev:SEv),ops[i]?=some o→evs[i]?=some ev→B7n (Ey ops evs s0 i) ev):∀k,k≤ops.length→∀b,(Ey ops evs s0 k).blk b=Gl (wrB evs b) (fun _=>true) k (s0.blk b)
 | 0,_,b=>rfl
 | k+1,h,b=>by
  have ih:=A5e hl hok k (by omega) b;have ho:ops[k]?=some (ops[k]'(by omega)):=List.getElem?_eq_getElem (by omega);have he:evs[k]?=some (evs[k]'(by omega)):=List.getElem?_eq_getElem (by omega);have aC:=hok k _ _ ho he;unfold Ey Gl;rw[if_pos rfl,ho,he];simp only;have hw:wrB evs b k=match (evs[k]'(by omega)).wb with | some x=>if x.1=b then some (some x.2) else none | none=>none:=by
   unfold wrB;rw[he]
  rw[hw];generalize hs:Ey ops evs s0 k=s at *;have aB:∀(u:Option (TypeId×List Sg)) (h':List (Option (TypeId×List Sg))),b≠h'.length→(h'++[u])[b]?.join=h'[b]?.join:=by
   intro u h' aD;rcases Nat.lt_or_ge b h'.length with h1 | h1
   ·rw[List.getElem?_append_left h1]
   ·rw[List.getElem?_append_right h1,List.getElem?_eq_none (l:=h') h1];rw[List.getElem?_eq_none (by simp;omega)]
  have aA:∀h':List (Option (TypeId×List Sg)),(h'++[none])[b]?.join=h'[b]?.join:=by
   intro h';by_cases hb:b=h'.length
   ·subst hb;simp
   ·exact aB _ _ hb
  rw[←ih];unfold Na St.blk;cases hx:(evs[k]'(by omega)).wb with
  | none=>simp only[aA];rfl
  | some x=>
   obtain⟨b',T,cs⟩:=x;simp only;rcases aC _ hx with h1 | ⟨h1,h2⟩
   ·simp only at h1;subst h1;rw[if_pos rfl];by_cases hb:s.h.length=b
    ·subst hb;simp
    ·rw[if_neg hb];exact aB _ _ (fun e=>hb e.symm)
   ·simp only at h1 h2;rw[if_neg (by omega)];simp only[aA];by_cases hb:b'=b
    ·subst hb;rw[if_pos rfl];simp[h1]
    ·rw[if_neg hb,List.getElem?_set_ne hb];rfl
structure RInv (P : Program) (ops : List Oper) (evs : List SEv) (s0 : St) (ρ : List Av) (μ0 : Nat → Nat) (w0 : World) (D : Nat → Bool) (μ : Nat → Nat) (a : Act) (w : World) : Prop where
 dc:∀i o,ops[i]?=some o→D i=true→∀e∈o.after,Region.binds .any e=true→D e.on=true
 size:a.tmps.size=s0.σ.length
 df:a.defers=[]
 tm:∀t x,sD ops evs s0 D t=some x→a.tmps.getD t undef=x.val ρ μ
 bl:∀b T cs,hD ops evs s0 D b=some (T,cs)→Bk w (μ b) T (cellsL ρ μ cs)
 inj:∀b b',(hD ops evs s0 D b).isSome=true→(hD ops evs s0 D b').isSome=true→μ b=μ b'→b=b'
 nT:∀t x,sD ops evs s0 D t=some x→x.okn (fun b=>decide (b<s0.h.length)||D (b-s0.h.length))=true
 nB:∀b T cs,hD ops evs s0 D b=some (T,cs)→cs.all (·.okn fun b=>decide (b<s0.h.length)||D (b-s0.h.length))=true
 kp:Kpt s0 μ0 w0 w
 old:∀b,b<s0.h.length→μ b=μ0 b
 new:∀b,(hD ops evs s0 D b).isSome=true→s0.h.length≤b→w0.heap.size≤μ b
 ini:∀b,(hD ops evs s0 D b).isSome=true→b<s0.h.length→(s0.blk b).isSome=true
 nmD:∀b,(hD ops evs s0 D b).isSome=true→b<s0.h.length∨D (b-s0.h.length)=true
theorem Kpt.trans_below {s:St} {μ:Nat→Nat} {w w' w'':World} (h:Kpt s μ w w') (hb:Below w'.heap.size w' w''):Kpt s μ w w'':=
 ⟨hb.os.trans h.os,hb.tape.trans h.tape,hb.output.trans h.output,Nat.le_trans h.size hb.size,fun k hk hn=>(hb.block k (Nat.lt_of_lt_of_le hk h.size)).trans (h.block k hk hn)⟩
theorem Kpt.trans_grown {s:St} {μ:Nat→Nat} {w w' w'':World} {r:Nat} (h:Kpt s μ w w') (hb:w'.grownBy w'' (some r)) (hr:w.heap.size≤r∨∃b,(s.blk b).isSome=true∧μ b=r):Kpt s μ w w'':=
 ⟨hb.os.trans h.os,hb.tape.trans h.tape,hb.output.trans h.output,Nat.le_trans h.size hb.size,fun k hk hn=>(hb.block k (Nat.lt_of_lt_of_le hk h.size) (fun e=>by
  injection e with e;rcases hr with hr | ⟨b,h1,h2⟩
  ·omega
  ·exact hn b h1 (by omega))).trans (h.block k hk hn)⟩
theorem Pd {cl:List Nat} (h:allConf ops evs cl=true) {i j:Nat} {oi oj:Oper} {ei ej:SEv} (hij:i<j) (hoi:ops[i]?=some oi) (hoj:ops[j]?=some oj) (hei:evs[i]?=some ei) (hej:evs[j]?=some ej) (hc:A0f ops oi oj ei ej=true):(cl.getD j 0).testBit i=true:=by
 have hj:=(List.getElem?_eq_some_iff.1 hoj).1;have h1:=List.all_eq_true.1 (List.all_eq_true.1 h j (List.mem_range.2 hj)) i (List.mem_range.2 hij);simp only[hoi,hoj,hei,hej,hc,Bool.not_true,Bool.false_or]at h1;exact h1
theorem B3j {N N0:Nat} {cl:List Nat} (h:allOk N N0 ops evs cl=true) {i:Nat} {o:Oper} {ev:SEv} (ho:ops[i]?=some o) (he:evs[i]?=some ev):D7g N N0 i (cl.getD i 0) o ev=true:=by
 have hi:=(List.getElem?_eq_some_iff.1 ho).1;have h1:=List.all_eq_true.1 h i (List.mem_range.2 hi);simp only[ho,he]at h1;exact h1
theorem Qp {N N':Nat→Bool} (h:∀b,N b=true→N' b=true):∀ {l:List Sg},l.all (·.okn N)=true→l.all (·.okn N')=true:=by
 intro l hl;refine List.all_eq_true.2 fun x hx=>?_;have:=List.all_eq_true.1 hl x hx;cases x<;>first | rfl | exact h _ this
theorem SV.okn_mono {N N':Nat→Bool} (h:∀b,N b=true→N' b=true) {x:SV} (hx:x.okn N=true):x.okn N'=true:=by
 cases x with
 | v a l=>exact Go.Proofs.YtlegpkdighoflaaGreat.Qp h hx
 | tup l=>exact List.all_eq_true.2 fun y hy=>Go.Proofs.YtlegpkdighoflaaGreat.Qp h (List.all_eq_true.1 hx y hy)
end
end
section
variable {P : Program} {g : TypeId → Option (List Nat)} {ops : List Oper} {evs : List SEv} {s0 : St} {ρ : List Av} {μ0 : Nat → Nat} {w0 : World} {D : Nat → Bool} {μ : Nat → Nat} {a : Act} {w : World} {i : Nat} {o : Oper} {ev : SEv}
structure RegOk (ops : List Oper) (s0 : St) (evs : List SEv) : Prop where
 inn:inOrder ops=true
 conf:allConf ops evs (closB ops [])=true
 ok:allOk s0.σ.length s0.h.length ops evs (closB ops [])=true
 clo:closedB ops (closB ops [])=true
 len:ops.length=evs.length
theorem D5u (h:D8u ops s0 evs=true):RegOk ops s0 evs:=by
 unfold D8u at h;simp only[Bool.and_eq_true,beq_iff_eq]at h;exact ⟨h.1.1.1.1,h.1.1.1.2,h.1.1.2,h.1.2,h.2⟩
theorem RegOk.dstlt (h:RegOk ops s0 evs):∀(i:Nat) (o:Oper) (ev:SEv),ops[i]?=some o→evs[i]?=some ev→∀t,o.dst=some t→t<s0.σ.length:=by
 intro i o ev ho he t ht;have:=B3j h.ok ho he;unfold D7g at this;simp only[Bool.and_eq_true,ht,decide_eq_true_eq]at this;exact this.2
theorem D2v {α:Type} {wr:Nat→Option α} {x:α} (hr:RegOk ops s0 evs) (hI:RInv P ops evs s0 ρ μ0 w0 D μ a w) (ho:ops[i]?=some o) (he:evs[i]?=some ev) (hi:D i=false) (hp:∀e∈o.after,Region.binds .any e=true→D e.on=true)
 (hw:∀j oj ej,ops[j]?=some oj→evs[j]?=some ej→wr j≠none→A0f ops oj o ej ev=true∧A0f ops o oj ev ej=true) :
 Gl wr D ops.length x=Gl wr (fun _=>true) i x:=by
 have aD:=(List.getElem?_eq_some_iff.1 ho).1;rw[←A0t (n:=ops.length) (by omega)];refine Hk fun j hj hne=>?_;apply Classical.byContradiction;intro hn;have aA:=List.getElem?_eq_getElem hj;have aB:evs[j]?=some (evs[j]'(by rw[←hr.len];exact hj)):=List.getElem?_eq_getElem _;obtain⟨h1,h2⟩:=hw j _ _ aA aB hn;by_cases hji:j<i
 ·have h3:=Qz hr.inn hr.clo hI.dc i o ho hp j (Pd hr.conf hji aA ho aB he h1);simp[hji,h3]at hne
 ·have h3:D j=true:=by
   cases hd:D j with
   | true=>rfl
   | false=>simp[hji,hd]at hne
  have aC:i<j:=by
   have:i≠j:=fun e=>by subst e;rw[hi]at h3;cases h3
   omega
  have h4:=Qz hr.inn hr.clo hI.dc j _ aA (hI.dc j _ aA h3) i (Pd hr.conf aC ho aA he aB h2);rw[hi]at h4;cases h4
theorem D0p (hr:RegOk ops s0 evs) (hI:RInv P ops evs s0 ρ μ0 w0 D μ a w) (ho:ops[i]?=some o) (he:evs[i]?=some ev) (hi:D i=false) (hp:∀e∈o.after,Region.binds .any e=true→D e.on=true)
 {t:Nat} (ht:t∈B1k ops o):sD ops evs s0 D t=(Ey ops evs s0 i).σ[t]?:=by
 have aA:=(List.getElem?_eq_some_iff.1 ho).1;rw[A9r hr.len hr.dstlt i (by omega)];refine D2v hr hI ho he hi hp fun j oj ej hoj hej hn=>?_;have hd:oj.dst=some t:=by
  unfold wrT at hn;rw[hoj,hej]at hn;simp only at hn;split at hn
  ·assumption
  ·exact absurd rfl hn
 unfold A0f;rw[hd];simp[ht]
theorem C1r (hr:RegOk ops s0 evs) (hwb:∀(i:Nat) (o:Oper) (ev:SEv),ops[i]?=some o→evs[i]?=some ev→B7n (Ey ops evs s0 i) ev) (hI:RInv P ops evs s0 ρ μ0 w0 D μ a w) (ho:ops[i]?=some o) (he:evs[i]?=some ev) (hi:D i=false)
 (hp:∀e∈o.after,Region.binds .any e=true→D e.on=true) {b:Nat} (hb:b∈ev.rb):hD ops evs s0 D b=(Ey ops evs s0 i).blk b:=by
 have aA:=(List.getElem?_eq_some_iff.1 ho).1;rw[A5e hr.len hwb i (by omega)];refine D2v hr hI ho he hi hp fun j oj ej hoj hej hn=>?_;have hd:∃x,ej.wb=some x∧x.1=b:=by
  unfold wrB at hn;rw[hej]at hn;simp only at hn;split at hn
  ·rename_i x hx
   split at hn
   ·rename_i h1;exact ⟨x,hx,h1⟩
   ·exact absurd rfl hn
  ·exact absurd rfl hn
 obtain⟨x,hx,rfl⟩:=hd;unfold A0f;rw[hx];simp[hb]
theorem C6u (hr:RegOk ops s0 evs) (hI:RInv P ops evs s0 ρ μ0 w0 D μ a w) (ho:ops[i]?=some o) (he:evs[i]?=some ev) (hi:D i=false) (hp:∀e∈o.after,Region.binds .any e=true→D e.on=true)
 {b:Bool} (hb:C2n ρ ops (Ey ops evs s0 i) o=some b):Region.wanted o (yielded ops.toArray a.tmps)=b:=by
 unfold C2n at hb;unfold Region.wanted;cases hg:o.guard with
 | none=>rw[hg]at hb;simp only[Option.some.injEq]at hb;exact hb
 | some jw=>
  obtain⟨j,aA⟩:=jw;rw[hg]at hb;simp only at hb ⊢;cases hd:(ops[j]?).bind (·.dst) with
  | none=>rw[hd]at hb;cases hb
  | some t=>
   rw[hd]at hb;simp only at hb;have ht:t∈B1k ops o:=by
    unfold B1k Oper.looksAt;refine List.mem_append_right _ ?_;rw[hg];simp[hd]
   have h1:=D0p hr hI ho he hi hp ht;split at hb
   ·rename_i u hu
    have h2:a.tmps.getD t undef=.bool u:=by
     cases hx:(Ey ops evs s0 i).σ[t]? with
     | none=>rw[hx]at hu;cases hu
     | some x=>rw[hx]at hu h1;exact (hI.tm t _ h1).trans (Oe hu)
    have h3:a.tmps[t]?=some (.bool u):=by
     rw[Array.getD_eq_getD_getElem?]at h2;cases h4:a.tmps[t]? with
     | none=>rw[h4]at h2;cases h2
     | some z=>rw[h4]at h2;simp only[Option.getD_some]at h2;rw[h2]
    unfold yielded;simp only[List.getElem?_toArray,hd,Option.bind_some,h3];simp only[Option.some.injEq]at hb;rw[←hb];cases u<;>cases aA<;>rfl
   ·split at hb
    ·rename_i vs hu
     have h2:a.tmps.getD t undef=.tuple vs:=hI.tm t _ (h1.trans hu);have h3:yielded ops.toArray a.tmps j=none:=by
      unfold yielded;simp only[List.getElem?_toArray,hd,Option.bind_some];rw[Array.getD_eq_getD_getElem?]at h2;cases h4:a.tmps[t]? with
      | none=>rfl
      | some z=>rw[h4]at h2;simp only[Option.getD_some]at h2;rw[h2]
     rw[h3];simp only[Option.some.injEq]at hb;rw[←hb];rfl
    ·cases hb
theorem C0k {N0 cl b:Nat} (h:C1y N0 i cl b=true) (hc:∀j,cl.testBit j=true→D j=true):(decide (b<N0)||Jj D i (b-N0))=true:=by
 unfold C1y at h;simp only[Bool.or_eq_true,decide_eq_true_eq,beq_iff_eq]at h ⊢;rcases h with (h | h) | h
 ·exact .inl h
 ·subst h;exact .inr (by simp[Jj])
 ·exact .inr (by simp[Jj,hc _ h])
theorem C0w {D:Nat→Bool} {N0 b:Nat} (h:(decide (b<N0)||D (b-N0))=true):(decide (b<N0)||Jj D i (b-N0))=true:=by
 simp only[Bool.or_eq_true]at h ⊢;rcases h with h | h
 ·exact .inl h
 ·exact .inr (by simp[Jj,h])
theorem A8s (ho:ops[i]?=some o) {t:Nat} (ht:o.dst≠some t):sD ops evs s0 (Jj D i) t=sD ops evs s0 D t:=by
 refine Ta ?_;unfold wrT;rw[ho];cases evs[i]? with
 | none=>rfl
 | some ev=>simp only;rw[if_neg ht]
theorem Kw (he:evs[i]?=some ev) {b:Nat} (hb:∀x,ev.wb=some x→x.1≠b):hD ops evs s0 (Jj D i) b=hD ops evs s0 D b:=by
 refine Ta ?_;unfold wrB;rw[he];simp only;cases hx:ev.wb with
 | none=>rfl
 | some x=>simp only;rw[if_neg (hb x hx)]
theorem A8f (hr:RegOk ops s0 evs) (hI:RInv P ops evs s0 ρ μ0 w0 D μ a w) (ho:ops[i]?=some o) (he:evs[i]?=some ev) (hi:D i=false) {t:Nat} (ht:o.dst=some t):sD ops evs s0 (Jj D i) t=some ev.val:=by
 have aC:=(List.getElem?_eq_some_iff.1 ho).1;refine Vy (i:=i) (v:=some ev.val) (by unfold wrT;rw[ho,he];simp only;rw[if_pos ht]) (by simp[Jj]) aC fun j hij hj hd=>?_;apply Classical.byContradiction;intro hn;have aA:=List.getElem?_eq_getElem hj;have aB:evs[j]?=some (evs[j]'(by rw[←hr.len];exact hj)):=List.getElem?_eq_getElem _;have h3:D j=true:=by
  simp only[Jj,Bool.or_eq_true,decide_eq_true_eq]at hd;rcases hd with h | h
  ·omega
  ·exact h
 have aD:ops[j].dst=some t:=by
  unfold wrT at hn;rw[aA,aB]at hn;simp only at hn;split at hn
  ·assumption
  ·exact absurd rfl hn
 have h4:=Qz hr.inn hr.clo hI.dc j _ aA (hI.dc j _ aA h3) i (Pd hr.conf hij ho aA he aB (by unfold A0f;rw[ht,aD];simp));rw[hi]at h4;cases h4
theorem A8m (hr:RegOk ops s0 evs) (hI:RInv P ops evs s0 ρ μ0 w0 D μ a w) (ho:ops[i]?=some o) (he:evs[i]?=some ev) (hi:D i=false) {b:Nat} {T:TypeId} {cs:List Sg} (hb:ev.wb=some (b,T,cs)):hD ops evs s0 (Jj D i) b=some (T,cs):=by
 have aC:=(List.getElem?_eq_some_iff.1 ho).1;refine Vy (i:=i) (v:=some (T,cs)) (by unfold wrB;rw[he];simp[hb]) (by simp[Jj]) aC fun j hij hj hd=>?_;apply Classical.byContradiction;intro hn;have aA:=List.getElem?_eq_getElem hj;have aB:evs[j]?=some (evs[j]'(by rw[←hr.len];exact hj)):=List.getElem?_eq_getElem _;have h3:D j=true:=by
  simp only[Jj,Bool.or_eq_true,decide_eq_true_eq]at hd;rcases hd with h | h
  ·omega
  ·exact h
 have aD:∃x,(evs[j]'(by rw[←hr.len];exact hj)).wb=some x∧x.1=b:=by
  unfold wrB at hn;rw[aB]at hn;simp only at hn;split at hn
  ·rename_i x hx
   split at hn
   ·rename_i h1;exact ⟨x,hx,h1⟩
   ·exact absurd rfl hn
  ·exact absurd rfl hn
 obtain⟨x,hx,aE⟩:=aD;have h4:=Qz hr.inn hr.clo hI.dc j _ aA (hI.dc j _ aA h3) i (Pd hr.conf hij ho aA he aB (by unfold A0f;rw[hb,hx];simp[aE]));rw[hi]at h4;cases h4
end
section
variable {P : Program} {g : TypeId → Option (List Nat)} {ops : List Oper} {evs : List SEv} {s0 : St} {ρ : List Av} {μ0 : Nat → Nat} {w0 : World} {D : Nat → Bool} {μ : Nat → Nat} {a : Act} {w : World} {i : Nat} {o : Oper} {ev : SEv}
theorem B4b {a:Act} {t d:Nat} {v:Value}:(a.put (some d) v).tmps.getD t undef=if d=t∧t<a.tmps.size then v else a.tmps.getD t undef:=by
 unfold Act.put;simp only[Array.getD_eq_getD_getElem?];by_cases h:d=t
 ·subst h;by_cases hl:d<a.tmps.size
  ·rw[if_pos ⟨rfl,hl⟩,Array.getElem?_setIfInBounds_self_of_lt hl];rfl
  ·rw[if_neg (by simp[hl]),Array.getElem?_eq_none (by simpa using hl),Array.getElem?_eq_none (by simpa using hl)]
 ·rw[if_neg (fun h'=>h h'.1),Array.getElem?_setIfInBounds_ne h]
theorem B6a (hr:RegOk ops s0 evs) (hwb:∀(i:Nat) (o:Oper) (ev:SEv),ops[i]?=some o→evs[i]?=some ev→B7n (Ey ops evs s0 i) ev) (hI:RInv P ops evs s0 ρ μ0 w0 D μ a w) (ho:ops[i]?=some o) (he:evs[i]?=some ev) (hi:D i=false)
 (hp:∀e∈o.after,Region.binds .any e=true→D e.on=true) {μ':Nat→Nat} {w':World} (hE:Us ρ (Ey ops evs s0 i) (Ey ops evs s0 i).h.length ev μ w μ' w') :
 RInv P ops evs s0 ρ μ0 w0 (Jj D i) μ' (a.put o.dst (ev.val.val ρ μ')) w':=by
 have aU:=(List.getElem?_eq_some_iff.1 ho).1;have aJ:=(Sc (s0:=s0) hr.len i (by omega)).1;rw[aJ]at hE;have aM:=Qz hr.inn hr.clo hI.dc i o ho hp;have aE:=B3j hr.ok ho he;unfold D7g at aE;simp only[Bool.and_eq_true]at aE;obtain⟨⟨aK,aF⟩,aR⟩:=aE;have hμ:∀b,(decide (b<s0.h.length)||D (b-s0.h.length))=true→μ b=μ' b:=by
  intro b hb;unfold Us at hE;have aS:(b != s0.h.length+i)=true:=by
   simp only[bne_iff_ne,ne_eq];intro e;subst e;rw[Nat.add_sub_cancel_left,hi]at hb;simp only[Bool.or_false,decide_eq_true_eq]at hb;omega
  split at hE
  ·rw[hE.1]
  ·rcases hE with ⟨_,h2,_⟩ | ⟨_,_,h2,_⟩
   ·rw[h2];exact C9n aS
   ·rw[h2]
 have aB:w.grownBy w' none∨∃b T cs,ev.wb=some (b,T,cs)∧b∈ev.rb∧(∃T0 cs0,(Ey ops evs s0 i).blk b=some (T0,cs0))∧μ'=μ∧w.grownBy w' (some (μ b)):=by
  unfold Us at hE;split at hE
  ·exact .inl ⟨hE.2.os,hE.2.tape,hE.2.output,hE.2.size,fun k hk _=>hE.2.block k hk⟩
  ·rename_i b T cs hx
   rcases hE with ⟨_,_,h3,_⟩ | ⟨h1,h2,h3,h4,_⟩
   ·exact .inl ⟨h3.os,h3.tape,h3.output,h3.size,fun k hk _=>h3.block k hk⟩
   ·exact .inr ⟨b,T,cs,hx,h1,h2,h3,h4⟩
 have aN:w.heap.size≤w'.heap.size:=by rcases aB with h | ⟨_,_,_,_,_,_,_,h⟩<;>exact h.size
 have aG:∀b T cs,hD ops evs s0 D b=some (T,cs)→(∀x,ev.wb=some x→x.1≠b)→Bk w' (μ' b) T (cellsL ρ μ' cs):=by
  intro b T cs hb hx;have h1:=hI.bl b T cs hb;have h2:=hI.nB b T cs hb;have aH:=hI.nmD b (by rw[hb];rfl);rw[←hμ b (by simp only[Bool.or_eq_true,decide_eq_true_eq];exact aH),←Kt hμ h2];rcases aB with h | ⟨b',T',cs',hx',hrb,⟨T0,cs0,hbk⟩,h3,h4⟩
  ·exact h1.grown h (by simp)
  ·refine h1.grown h4 fun e=>?_;injection e with e;have h5:=C1r hr hwb hI ho he hi hp hrb;have:=hI.inj b b' (by rw[hb];rfl) (by rw[h5,hbk];rfl) e;exact hx _ hx' this.symm
 have aA:∀b,(∀x,ev.wb=some x→x.1≠b)∨∃T cs,ev.wb=some (b,T,cs):=by
  intro b;cases hx:ev.wb with
  | none=>exact .inl fun x h=>by cases h
  | some x=>
   by_cases hb:x.1=b
   ·subst hb;exact .inr ⟨x.2.1,x.2.2,rfl⟩
   ·exact .inl fun y h=>by cases h;exact hb
 have aC:∀b T cs,ev.wb=some (b,T,cs)→Bk w' (μ' b) T (cellsL ρ μ' cs)∧((b=s0.h.length+i∧μ' b=w.heap.size)∨(μ'=μ∧∃T0 cs0,hD ops evs s0 D b=some (T0,cs0))):=by
  intro b T cs hx;unfold Us at hE;rw[hx]at hE;rcases hE with ⟨h1,h2,h3,h4⟩ | ⟨h1,⟨T0,cs0,h2⟩,h3,h4,h5,h6⟩
  ·have h7:μ' b=w.heap.size:=by rw[h2,h1];exact B2x _ _ _
   exact ⟨by rw[h7];exact h4,.inl ⟨h1,h7⟩⟩
  ·have h7:=C1r hr hwb hI ho he hi hp h1;exact ⟨by rw[h3];exact h6,.inr ⟨h3,T0,cs0,by rw[h7];exact h2⟩⟩
 refine ⟨?_,?_,?_,?_,?_,?_,?_,?_,?_,?_,?_,?_,?_⟩
 ·
  intro j oj aL hd e aO hb;simp only[Jj,Bool.or_eq_true,decide_eq_true_eq]at hd;rcases hd with rfl | hd
  ·rw[ho]at aL;cases aL;simp[Jj,hp e aO hb]
  ·simp[Jj,hI.dc j oj aL hd e aO hb]
 ·rw[A5b];exact hI.size
 ·cases hd:o.dst<;>exact hI.df
 ·
  intro t x hx;by_cases ht:o.dst=some t
  ·rw[A8f hr hI ho he hi ht]at hx;injection hx with hx;subst hx;rw[ht,B4b,if_pos ⟨rfl,by rw[hI.size];exact hr.dstlt i o ev ho he t ht⟩]
  ·rw[A8s ho ht]at hx;have h1:=hI.tm t x hx;rw[←SV.val_congr hμ (hI.nT t x hx),←h1];cases hd:o.dst with
   | none=>rfl
   | some d=>
    rw[B4b,if_neg];intro h2;exact ht (by rw[hd,h2.1])
 ·
  intro b T cs hb;rcases aA b with hx | ⟨T',cs',hx⟩
  ·rw[Kw he hx]at hb;exact aG b T cs hb hx
  ·rw[A8m hr hI ho he hi hx]at hb;cases hb;exact (aC b _ _ hx).1
 ·
  have aI:∀b,(hD ops evs s0 D b).isSome=true→μ b<w.heap.size:=by intro b hb;obtain⟨x,hx⟩:=Option.isSome_iff_exists.1 hb;exact (hI.bl b x.1 x.2 hx).lt
  have aD:∀b,(hD ops evs s0 (Jj D i) b).isSome=true→((hD ops evs s0 D b).isSome=true∧μ' b=μ b)∨(b=s0.h.length+i∧μ' b=w.heap.size):=by
   intro b hb;rcases aA b with hx | ⟨T',cs',hx⟩
   ·rw[Kw he hx]at hb;have aH:=hI.nmD b hb;exact .inl ⟨hb,(hμ b (by simp only[Bool.or_eq_true,decide_eq_true_eq];exact aH)).symm⟩
   ·rcases (aC b _ _ hx).2 with h | ⟨h,T0,cs0,h2⟩
    ·exact .inr h
    ·exact .inl ⟨by rw[h2];rfl,by rw[h]⟩
  intro b b' hb aT aV;rcases aD b hb with ⟨h1,h2⟩ | ⟨h1,h2⟩<;>rcases aD b' aT with ⟨h3,h4⟩ | ⟨h3,h4⟩
  ·exact hI.inj b b' h1 h3 (by omega)
  ·have:=aI b h1;omega
  ·have:=aI b' h3;omega
  ·omega
 ·
  intro t x hx;by_cases ht:o.dst=some t
  ·rw[A8f hr hI ho he hi ht]at hx;injection hx with hx;subst hx;exact SV.okn_mono (fun b hb=>C0k hb aM) aK
  ·rw[A8s ho ht]at hx;exact SV.okn_mono (fun b hb=>C0w hb) (hI.nT t x hx)
 ·
  intro b T cs hb;rcases aA b with hx | ⟨T',cs',hx⟩
  ·rw[Kw he hx]at hb;exact Qp (fun b hb=>C0w hb) (hI.nB b T cs hb)
  ·rw[A8m hr hI ho he hi hx]at hb;cases hb;rw[hx]at aF;exact Qp (fun b hb=>C0k hb aM) aF
 ·
  rcases aB with h | ⟨b,T,cs,hx,hrb,⟨T0,cs0,hbk⟩,h3,h4⟩
  ·exact hI.kp.trans_below ⟨h.os,h.tape,h.output,h.size,fun k hk=>h.block k hk (by simp)⟩
  ·have h5:=C1r hr hwb hI ho he hi hp hrb;have hs:(hD ops evs s0 D b).isSome=true:=by rw[h5,hbk];rfl
   refine hI.kp.trans_grown h4 ?_;rcases Nat.lt_or_ge b s0.h.length with h6 | h6
   ·exact .inr ⟨b,hI.ini b hs h6,(hI.old b h6).symm⟩
   ·exact .inl (hI.new b hs h6)
 ·
  intro b hb;rw[←hμ b (by simp[hb])];exact hI.old b hb
 ·
  intro b hb aP;rcases aA b with hx | ⟨T',cs',hx⟩
  ·rw[Kw he hx]at hb;have aH:=hI.nmD b hb;rw[←hμ b (by simp only[Bool.or_eq_true,decide_eq_true_eq];exact aH)];exact hI.new b hb aP
  ·rcases (aC b _ _ hx).2 with ⟨h1,h2⟩ | ⟨h,T0,cs0,h2⟩
   ·rw[h2];exact hI.kp.size
   ·rw[h];exact hI.new b (by rw[h2];rfl) aP
 ·
  intro b hb aQ;rcases aA b with hx | ⟨T',cs',hx⟩
  ·rw[Kw he hx]at hb;exact hI.ini b hb aQ
  ·rcases (aC b _ _ hx).2 with ⟨h1,h2⟩ | ⟨h,T0,cs0,h2⟩
   ·omega
   ·exact hI.ini b (by rw[h2];rfl) aQ
 ·
  intro b hb;rcases aA b with hx | ⟨T',cs',hx⟩
  ·rw[Kw he hx]at hb;rcases hI.nmD b hb with h | h
   ·exact .inl h
   ·exact .inr (by simp[Jj,h])
  ·rcases (aC b _ _ hx).2 with ⟨h1,h2⟩ | ⟨h,T0,cs0,h2⟩
   ·exact .inr (by simp[Jj,h1])
   ·rcases hI.nmD b (by rw[h2];rfl) with h | h
    ·exact .inl h
    ·exact .inr (by simp[Jj,h])
theorem C6l {Q:Exit→Act→World→Prop} (hr:RegOk ops s0 evs) (hrun:∀(i:Nat) (o:Oper) (ev:SEv),ops[i]?=some o→evs[i]?=some ev→∃m,B6o P g ρ ops (Ey ops evs s0 i).h.length m (Ey ops evs s0 i) o=some ev)
 (hwb:∀(i:Nat) (o:Oper) (ev:SEv),ops[i]?=some o→evs[i]?=some ev→B7n (Ey ops evs s0 i) ev) (hq:∀ev∈evs,∀q,ev.rq=some q→q.Ok P ρ)
 (hI:RInv P ops evs s0 ρ μ0 w0 D μ a w) (ho:ops[i]?=some o) (hi:D i=false) (hp:∀e∈o.after,Region.binds .any e=true→D e.on=true) :
 wpOp P ops.toArray Q i (fun a' w'=>∃μ',RInv P ops evs s0 ρ μ0 w0 (Jj D i) μ' a' w') a w:=by
 have aC:=(List.getElem?_eq_some_iff.1 ho).1;have he:evs[i]?=some (evs[i]'(by rw[←hr.len];exact aC)):=List.getElem?_eq_getElem _;generalize hev:evs[i]'(by rw[←hr.len];exact aC)=ev at he;have aB:=(Sc (s0:=s0) hr.len i (by omega)).1;obtain⟨m,hm⟩:=hrun i o ev ho he;unfold B6o at hm;unfold wpOp;simp only[List.getElem?_toArray,ho];cases hwt:C2n ρ ops (Ey ops evs s0 i) o with
 | none=>rw[hwt]at hm;cases hm
 | some bw=>
  rw[C6u hr hI ho he hi hp hwt];rw[hwt]at hm;cases bw with
  | false=>
   simp only[Bool.false_eq_true,if_false]at hm ⊢;injection hm with hm;have h1:ev.val=.v false [.c undef]:=by rw[←hm]
   have h2:=B6a hr hwb hI ho he hi hp (μ':=μ) (w':=w) (by unfold Us;rw[←hm];exact ⟨rfl,Below.refl _ _⟩);rw[h1]at h2;exact ⟨μ,h2⟩
  | true=>
   simp only[if_true]at hm ⊢;refine .inl ?_;cases hab:C0u P g ρ (Ey ops evs s0 i).h.length m (Ey ops evs s0 i) o with
   | none=>rw[hab]at hm;cases hm
   | some ev'=>
    rw[hab]at hm;simp only at hm;split at hm
    ·injection hm with hm;subst hm;refine B4m hab (fun x hx s hs=>?_) (fun x hx s hs=>?_) (fun b hb T cs hbk=>?_) (fun q hqe=>hq ev' (List.mem_of_getElem? he) q hqe) fun μ' w' hE=>⟨μ',B6a hr hwb hI ho he hi hp hE⟩
     ·cases x with
      | tmp t=>
       have ht:t∈B1k ops o:=by unfold B1k Oper.looksAt;exact List.mem_append_left _ (List.mem_filterMap.2 ⟨.tmp t,hx,rfl⟩)
       exact hI.tm t s ((D0p hr hI ho he hi hp ht).trans hs)
      | const v=>exact (Oh hs).symm
      | global _=>cases hs
      | func _=>cases hs
     ·cases x with
      | tmp t=>
       have ht:t∈B1k ops o:=by unfold B1k Oper.looksAt;exact List.mem_append_left _ (List.mem_filterMap.2 ⟨.tmp t,hx,rfl⟩)
       have h3:=hI.nT t s ((D0p hr hI ho he hi hp ht).trans hs);refine SV.okn_mono (fun b hb=>?_) h3;rw[aB];simp only[bne_iff_ne,ne_eq];intro e;subst e;rw[Nat.add_sub_cancel_left,hi]at hb;simp only[Bool.or_false,decide_eq_true_eq]at hb;omega
      | const v=>
       have aA:Pz v=some s:=hs;unfold Pz at aA;split at aA
       ·split at aA
        ·cases aA;simp[SV.okn,Sg.okn]
        ·cases aA
       ·cases aA
       ·cases aA;rfl
      | global _=>cases hs
      | func _=>cases hs
     ·exact hI.bl b T cs ((C1r hr hwb hI ho he hi hp hb).trans hbk)
    ·cases hm
theorem D7s {m:Nat} {s:St} {o:Oper} {ev:SEv} (h:B6o P g ρ ops s.h.length m s o=some ev):B7n s ev:=by
 unfold B6o at h;split at h
 ·split at h
  ·split at h
   ·rename_i hc
    cases h;intro x hx;unfold E7v at hc;rw[hx]at hc;simp only[Bool.or_eq_true,beq_iff_eq]at hc;rcases hc with hc | hc
    ·exact .inl hc
    ·exact .inr ⟨A9z hc,hc⟩
   ·cases h
  ·cases h
 ·cases h;intro x hx;cases hx
 ·cases h
def Mn (listed:Array Bool):Nat→Bool:=fun i=>listed.getD i false
theorem C6o {listed:Array Bool} {i:Nat} (h:i<listed.size):Mn (listed.setIfInBounds i true)=Jj (Mn listed) i:=by
 funext j;unfold Mn Jj;by_cases hj:j=i
 ·subst hj;simp[h]
 ·rw[getD_set_ne false (fun e=>hj e.symm)];simp[hj]
theorem A8a:∀(L L':List Nat),L.Nodup→(∀i∈L,i∈L')→L.length≤L'.length
 | [],_,_,_=>Nat.zero_le _
 | x::L,L',h,hs=>by
  simp only[List.nodup_cons]at h;have h1:=A8a L (L'.erase x) h.2 fun i hi=>(List.mem_erase_of_ne (fun e=>h.1 (by rw[←e];exact hi))).2 (hs i (by simp[hi]));have h2:=hs x (by simp);rw[List.length_erase_of_mem h2]at h1;have h3:=List.length_pos_of_mem h2;simp only[List.length_cons];omega
theorem D5q {n:Nat} {L:List Nat} (h:L.Nodup) (hl:∀i∈L,i<n) (hn:L.length=n):∀i,i<n→i∈L:=by
 intro i hi;apply Classical.byContradiction;intro aA;have:=A8a (i::L) (List.range n) (by simp[aA,h]) (fun j hj=>by
  rcases List.mem_cons.1 hj with rfl | hj
  ·exact List.mem_range.2 hi
  ·exact List.mem_range.2 (hl j hj))
 simp at this;omega
theorem D2w {Q:Exit→Act→World→Prop} (hr:RegOk ops s0 evs) (hrun:∀(i:Nat) (o:Oper) (ev:SEv),ops[i]?=some o→evs[i]?=some ev→∃m,B6o P g ρ ops (Ey ops evs s0 i).h.length m (Ey ops evs s0 i) o=some ev)
 (hwb:∀(i:Nat) (o:Oper) (ev:SEv),ops[i]?=some o→evs[i]?=some ev→B7n (Ey ops evs s0 i) ev) (hq:∀ev∈evs,∀q,ev.rq=some q→q.Ok P ρ)
 (hQ:∀D μ a w,(∀i,D i=true↔i<ops.length)→RInv P ops evs s0 ρ μ0 w0 D μ a w→Q .normal a w) :
 ∀(fuel:Nat) (listed:Array Bool) (L:List Nat) (μ:Nat→Nat) (a:Act) (w:World),listed.size=ops.length→L.Nodup→L.length+fuel=ops.length→(∀i,i∈L↔Mn listed i=true)→
  RInv P ops evs s0 ρ μ0 w0 (Mn listed) μ a w→wpAny P .any ops.toArray Q fuel listed a w:=by
 have aC:∀(listed:Array Bool) (i:Nat),Mn listed i=true→i<listed.size:=by
  intro listed i h;unfold Mn at h;rcases Nat.lt_or_ge i listed.size with h1 | h1
  ·exact h1
  ·simp[Array.getElem?_eq_none h1]at h
 have aD:∀(listed:Array Bool) (μ:Nat→Nat) (a:Act) (w:World),listed.size=ops.length→Region.ready .any ops.toArray listed=[]→RInv P ops evs s0 ρ μ0 w0 (Mn listed) μ a w→Q .normal a w:=
  fun listed μ a w hs h hI=>hQ _ μ a w (fun i=>⟨fun h'=>by rw[←hs];exact aC _ _ h',Ot hr.inn hs h i⟩) hI
 intro fuel;induction fuel with
 | zero=>
  intro listed L μ a w hs hn hl hL hI;have aA:∀i,i<ops.length→Mn listed i=true:=fun i hi=>(hL i).1 (D5q hn (fun j hj=>by rw[←hs];exact aC _ _ ((hL j).1 hj)) (by omega) i hi);refine ⟨?_,hQ _ μ a w (fun i=>⟨fun h'=>by rw[←hs];exact aC _ _ h',aA i⟩) hI⟩;cases hrd:Region.ready .any ops.toArray listed with
  | nil=>rfl
  | cons x xs=>
   obtain⟨h1,o,h2,_⟩:=mem_ready.1 (show x∈Region.ready .any ops.toArray listed by rw[hrd];simp);have h3:x<ops.length:=by simpa using (Array.getElem?_eq_some_iff.1 h2).1
   have h4:=aA x h3;unfold Mn at h4;have h5:x<listed.size:=by omega
   simp[h5]at h1 h4;rw[h1]at h4;cases h4
 | succ fuel ih=>
  intro listed L μ a w hs hn hl hL hI;refine ⟨fun h=>aD listed μ a w hs h hI,fun i hi=>?_⟩;obtain⟨h1,o,h2,h3⟩:=mem_ready.1 hi;have ho:ops[i]?=some o:=by simpa using h2
  have aF:=(List.getElem?_eq_some_iff.1 ho).1;have aE:Mn listed i=false:=by
   unfold Mn;have h5:i<listed.size:=by omega
   simp[h5]at h1 ⊢;exact h1
  refine wpOp_mono (fun a' w' hh=>?_) (C6l hr hrun hwb hq hI ho aE h3);obtain⟨μ',h⟩:=hh;have aB:=C6o (listed:=listed) (i:=i) (by omega);refine ih (listed.setIfInBounds i true) (i::L) μ' a' w' (by simpa using hs) ?_ (by simp;omega) ?_ (by rw[aB];exact h)
  ·simp only[List.nodup_cons];exact ⟨fun h=>(by rw[(hL i).1 h]at aE;cases aE),hn⟩
  ·intro j;rw[aB];simp[Jj,hL j]
end
section
structure Goes (s : St) (μ : Nat → Nat) (w : World) (s' : St) (μ' : Nat → Nat) (w' : World) : Prop where
 kp:Kpt s μ w w'
 len:s.h.length≤s'.h.length
 old:∀b,b<s.h.length→μ' b=μ b
 new:∀b,(s'.blk b).isSome=true→s.h.length≤b→w.heap.size≤μ' b
 ini:∀b,(s'.blk b).isSome=true→b<s.h.length→(s.blk b).isSome=true
theorem Goes.refl (s:St) (μ:Nat→Nat) (w:World):Goes s μ w s μ w:=
 ⟨⟨rfl,rfl,rfl,Nat.le_refl _,fun _ _ _=>rfl⟩,Nat.le_refl _,fun _ _=>rfl,fun b h1 h2=>absurd (A9z h1) (by omega),fun b h _=>h⟩
theorem Goes.trans {s s1 s2:St} {μ μ1 μ2:Nat→Nat} {w w1 w2:World} (h:Goes s μ w s1 μ1 w1) (h':Goes s1 μ1 w1 s2 μ2 w2):Goes s μ w s2 μ2 w2:=by
 refine ⟨⟨h'.kp.os.trans h.kp.os,h'.kp.tape.trans h.kp.tape,h'.kp.output.trans h.kp.output,Nat.le_trans h.kp.size h'.kp.size,fun k hk hn=>?_⟩,Nat.le_trans h.len h'.len,fun b hb=>(h'.old b (Nat.lt_of_lt_of_le hb h.len)).trans (h.old b hb),fun b hb hge=>?_,fun b hb hlt=>?_⟩
 ·refine (h'.kp.block k (Nat.lt_of_lt_of_le hk h.kp.size) fun b hb e=>?_).trans (h.kp.block k hk hn);rcases Nat.lt_or_ge b s.h.length with h1 | h1
  ·exact hn b (h.ini b hb h1) (by rw[←h.old b h1];exact e)
  ·have:=h.new b hb h1;omega
 ·rcases Nat.lt_or_ge b s1.h.length with h1 | h1
  ·rw[h'.old b h1];exact h.new b (h'.ini b hb h1) hge
  ·exact Nat.le_trans h.kp.size (h'.new b hb h1)
 ·exact h.ini b (h'.ini b hb (Nat.lt_of_lt_of_le hlt h.len)) hlt
section
variable {P : Program} {g : TypeId → Option (List Nat)} {ρ : List Av}
theorem Vt {α:Type} {wr:Nat→Option α}:∀ {n:Nat} {x:α},Gl wr (fun _=>false) n x=x
 | 0,_=>rfl
 | n+1,x=>by unfold Gl;rw[if_neg (by simp)];exact Vt
theorem A4i {ops:List Oper} {Q:Exit→Act→World→Prop} (hin:inOrder ops=true):∀(fuel k:Nat) (listed:Array Bool) (a:Act) (w:World),k+fuel=ops.length→listed.size=ops.length→(∀j,listed.getD j false=true↔j<k)→
 wpAny P .any ops.toArray Q fuel listed a w→wpOps P ops.toArray Q (List.range' k fuel) a w
 | 0,k,listed,a,w,hk,hs,hl,h=>h.2
 | fuel+1,k,listed,a,w,hk,hs,hl,h=>by
  rw[List.range'_succ,wpOps_cons];have hkl:k<ops.length:=by omega
  have aA:k∈Region.ready .any ops.toArray listed:=by
   refine mem_ready.2 ⟨?_,ops[k],by simp[hkl],fun e he hb=>(hl e.on).2 (Fq hin (List.getElem?_eq_getElem hkl) e he hb)⟩;have h1:listed.getD k false=false:=by
    cases h2:listed.getD k false with
    | false=>rfl
    | true=>have:=(hl k).1 h2;omega
   have h3:k<listed.size:=by omega
   simp[h3]at h1 ⊢;exact h1
  refine wpOp_mono (fun a' w' h'=>?_) (h.2 k aA);refine A4i hin fuel (k+1) _ a' w' (by omega) (by simpa using hs) (fun j=>?_) h';by_cases hj:j=k
  ·subst hj;have h3:j<listed.size:=by omega
   simp[h3]
  ·rw[getD_set_ne false (fun e=>hj e.symm),hl j];omega
theorem C4t {ops:List Oper} {evs:List SEv} {s s':St} {na na' id:Nat} {draw:Bool} {μ:Nat→Nat} {a:Act} {w:World} {Q:Exit→Act→World→Prop} (hm:P.follows .mixedOrders=true) (hrun:D1d P g ρ ops ops s na=some (evs,s',na')) (hreg:D8u ops s evs=true)
 (hq:∀ev∈evs,∀q,ev.rq=some q→q.Ok P ρ) (hR:Rel ρ s μ a w) (hQ:∀μ' a' w',Rel ρ s' μ' a' w'→Goes s μ w s' μ' w'→Q .normal a' w'):(Code.region id ops.toArray draw).wp P Q a w:=by
 have hr:=D5u hreg;obtain⟨_,aE,aK⟩:=C1a (ops:=ops) (evs:=evs) (s0:=s) (k:=0) (fun j=>by simp) (fun j=>by simp) hrun rfl;have aB:∀(i:Nat) (o:Oper) (ev:SEv),ops[i]?=some o→evs[i]?=some ev→∃m,B6o P g ρ ops (Ey ops evs s i).h.length m (Ey ops evs s i) o=some ev:=by intro i o ev ho he;have h1:=aK i o ev (by simpa using ho) (by simpa using he) (List.getElem?_eq_some_iff.1 ho).1;simpa using h1
 have aG:∀(i:Nat) (o:Oper) (ev:SEv),ops[i]?=some o→evs[i]?=some ev→B7n (Ey ops evs s i) ev:=by intro i o ev ho he;obtain⟨m,hm⟩:=aB i o ev ho he;exact D7s hm
 have aF:Ey ops evs s ops.length=s':=by simpa using aE
 have aH:∀t,sD ops evs s (fun _=>false) t=s.σ[t]?:=fun t=>Vt;have aC:∀b,hD ops evs s (fun _=>false) b=s.blk b:=fun b=>Vt;have any:∀w1:World,Rel ρ s μ a w1→Kpt s μ w w1→w1.heap.size=w.heap.size→wpAny P .any ops.toArray Q ops.length (Array.replicate ops.length false) a w1:=by
  intro w1 aD aL aM;have aI:Mn (Array.replicate ops.length false)=fun _=>false:=by
   funext j;unfold Mn;rcases Nat.lt_or_ge j ops.length with h | h
   ·simp[h]
   ·simp[Array.getElem?_eq_none (xs:=Array.replicate ops.length false) (i:=j) (by simpa using h)]
  refine D2w (μ0:=μ) (w0:=w) hr aB aG hq (fun D μ' a' w' hDD hI=>?_) ops.length _ [] μ a w1 (by simp) (by simp) (by simp) (fun i=>by rw[aI];simp) ?_
  ·have hT:∀t,sD ops evs s D t=s'.σ[t]?:=by intro t;rw[←aF,A9r hr.len hr.dstlt ops.length (Nat.le_refl _)];exact Hk fun j hj hne=>absurd ((hDD j).2 hj) hne
   have hB:∀b,hD ops evs s D b=s'.blk b:=by intro b;rw[←aF,A5e hr.len aG ops.length (Nat.le_refl _)];exact Hk fun j hj hne=>absurd ((hDD j).2 hj) hne
   have aA:=Sc (s0:=s) hr.len ops.length (Nat.le_refl _);rw[aF]at aA;have aJ:∀b,(decide (b<s.h.length)||D (b-s.h.length))=true→decide (b<s'.h.length)=true:=by
    intro b hb;simp only[Bool.or_eq_true,decide_eq_true_eq]at hb ⊢;rw[aA.1];rcases hb with hb | hb
    ·omega
    ·have:=(hDD _).1 hb;omega
   refine hQ μ' a' w' ⟨by rw[hI.size,aA.2],hI.df,fun t x hx=>hI.tm t x ((hT t).trans hx),fun b T cs hb=>hI.bl b T cs ((hB b).trans hb),fun b b' hb hb'=>hI.inj b b' (by rw[hB];exact hb) (by rw[hB];exact hb'),
    fun t x hx=>SV.okn_mono aJ (hI.nT t x ((hT t).trans hx)),fun b T cs hb=>Qp aJ (hI.nB b T cs ((hB b).trans hb))⟩
    ⟨hI.kp,by rw[aA.1];omega,hI.old,fun b hb=>hI.new b (by rw[hB];exact hb),fun b hb=>hI.ini b (by rw[hB];exact hb)⟩
  ·rw[aI];refine ⟨fun i o _ h=>(by cases h),aD.size,aD.df,fun t x hx=>aD.tm t x ((aH t).symm.trans hx),fun b T cs hb=>aD.bl b T cs ((aC b).symm.trans hb),fun b b' hb hb'=>aD.inj b b' (by rw[←aC];exact hb) (by rw[←aC];exact hb'),
    fun t x hx=>SV.okn_mono (fun b hb=>by simpa using hb) (aD.nT t x ((aH t).symm.trans hx)),fun b T cs hb=>Qp (fun b hb=>by simpa using hb) (aD.nB b T cs ((aC b).symm.trans hb)),aL,fun _ _=>rfl,fun b hb hge=>?_,fun b hb _=>by rw[←aC];exact hb,fun b hb=>?_⟩
   ·have:=A9z (s:=s) (b:=b) (by rw[←aC];exact hb);omega
   ·exact .inl (A9z (s:=s) (b:=b) (by rw[←aC];exact hb))
 cases draw with
 | true=>
  refine wp_region_any hm ?_;have h1:=any w.drew ⟨hR.size,hR.df,hR.tm,fun b T cs hb=>(hR.bl b T cs hb).drew,hR.inj,hR.nT,hR.nB⟩ ⟨rfl,rfl,rfl,Nat.le_refl _,fun _ _ _=>rfl⟩ rfl;have h2:ops.toArray.size=ops.length:=by simp
  rw[h2];exact h1
 | false=>
  refine wp_region ?_;have h1:=any w hR ⟨rfl,rfl,rfl,Nat.le_refl _,fun _ _ _=>rfl⟩ rfl;have h2:=A4i hr.inn ops.length 0 _ a w (by omega) (by simp) (fun j=>by
   rcases Nat.lt_or_ge j ops.length with h | h
   ·simp[h]
   ·simp[Array.getElem?_eq_none (xs:=Array.replicate ops.length false) (i:=j) (by simpa using h)]) h1
  rw[List.range_eq_range'];simpa using h2
end
end
end Go.Proofs.YtlegpkdighoflaaGreat
