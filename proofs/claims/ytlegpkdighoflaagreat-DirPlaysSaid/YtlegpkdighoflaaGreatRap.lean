/- A part of the proof of DirPlays. -/
import Derived.Test.YtlegpkdighoflaaGreatRao
set_option linter.unusedVariables false
set_option linter.unusedSimpArgs false
set_option maxRecDepth 100000
set_option maxHeartbeats 40000000
namespace Go.Proofs.YtlegpkdighoflaaGreat
open Go Go.RowKit Sh
section
def lastW {α:Type} (wr:Nat→Option α) (D:Nat→Bool):Nat→α→α
 | 0,x=>x
 | n+1,x=>if D n=true then (wr n).getD (lastW wr D n x) else lastW wr D n x
theorem lastW_congr {α:Type} {wr:Nat→Option α} {D E:Nat→Bool}:∀ {n:Nat} {x:α},(∀j,j<n→D j≠E j→wr j=none)→lastW wr D n x=lastW wr E n x
 | 0,_,_=>rfl
 | n+1,x,h=>by
  have ih:=lastW_congr (n:=n) (x:=x) fun j hj=>h j (by omega);unfold lastW;by_cases hd:D n=E n
  ·rw[hd,ih]
  ·rw[h n (by omega) hd,ih];simp
theorem lastW_some {α:Type} {wr:Nat→Option α} {D:Nat→Bool} {i:Nat} {v:α} (hv:wr i=some v) (hi:D i=true):∀ {n:Nat} {x:α},i<n→(∀j,i<j→j<n→D j=true→wr j=none)→lastW wr D n x=v
 | 0,_,h,_=>by omega
 | n+1,x,h,hj=>by
  unfold lastW;by_cases hn:i=n
  ·subst hn;rw[if_pos hi,hv];rfl
  ·have ih:=lastW_some hv hi (n:=n) (x:=x) (by omega) fun j h1 h2=>hj j h1 (by omega);split
   ·rename_i hd;rw[hj n (by omega) (by omega) hd,ih];rfl
   ·exact ih
def addD (D:Nat→Bool) (i:Nat):Nat→Bool:=fun j=>decide (j=i)||D j
theorem lastW_add_none {α:Type} {wr:Nat→Option α} {D:Nat→Bool} {i n:Nat} {x:α} (h:wr i=none):lastW wr (addD D i) n x=lastW wr D n x:=
 lastW_congr fun j _ hd=>by
  by_cases hj:j=i
  ·subst hj;exact h
  ·exact absurd (by simp[addD,hj]) hd
theorem lastW_below {α : Type} {wr : Nat → Option α} {i : Nat} {x : α} : ∀ {n : Nat}, i ≤ n → lastW wr (fun j => decide (j < i)) n x = lastW wr (fun _ => true) i x
  | 0, h => by have : i = 0 := by omega
               subst this; rfl
  | n + 1, h => by
    by_cases hn : i = n + 1
    · subst hn
      exact lastW_congr fun j hj hd => absurd (by simp [hj]) hd
    · rw [← lastW_below (n := n) (by omega)]
      conv => lhs; unfold lastW
      rw [if_neg (by simp; omega)]
def stepSt (s : St) (o : Oper) (ev : SEv) : St :=
  { σ := match o.dst with | some t => s.σ.set t ev.val | none => s.σ
    h := match ev.wb with
      | some (b, T, cs) => if b = s.h.length then s.h ++ [some (T, cs)] else s.h.set b (some (T, cs)) ++ [none]
      | none => s.h ++ [none] }
def wantB (ρ:List Av) (ops:List Oper) (s:St) (o:Oper):Option Bool:=match o.guard with
 | none=>some true
 | some (j,want)=>match (ops[j]?).bind (·.dst) with
  | some t=>match (s.σ[t]?).bind (boolOf ρ) with
   | some b=>some (b==want)
   | none=>match s.σ[t]? with
    | some (.v false [.c (.tuple _)])=>some false
    | _=>none
  | none=>none
def chkW (s:St) (nm:Nat) (ev:SEv):Bool:=match ev.wb with
 | some x=>x.1==nm||(s.blk x.1).isSome
 | none=>true
def absG (P:Program) (g:TypeId→Option (List Nat)) (ρ:List Av) (ops:List Oper) (nm na:Nat) (s:St) (o:Oper):Option SEv:=
 match wantB ρ ops s o with
 | some true=>match absOp P g ρ nm na s o with
  | some ev=>if chkW s nm ev=true then some ev else none
  | none=>none
 | some false=>some { val:=.v false [.c undef],na }
 | none=>none
def runR (P:Program) (g:TypeId→Option (List Nat)) (ρ:List Av) (ops:List Oper):List Oper→St→Nat→Option (List SEv×St×Nat)
 | [],s,na=>some ([],s,na)
 | o::os,s,na=>
  match absG P g ρ ops s.h.length na s o with
  | some ev=>match runR P g ρ ops os (stepSt s o ev) ev.na with
   | some (evs,s',na')=>some (ev::evs,s',na')
   | none=>none
  | none=>none
def stAt (ops:List Oper) (evs:List SEv) (s:St):Nat→St
 | 0=>s
 | k+1=>match ops[k]?,evs[k]? with
  | some o,some ev=>stepSt (stAt ops evs s k) o ev
  | _,_=>stAt ops evs s k
def bitsE (o:Oper) (cl:List Nat):Nat:=o.after.toList.foldl (fun m e=>if Region.binds .any e then m ||| 2 ^ e.on ||| cl.getD e.on 0 else m) 0
def closB:List Oper→List Nat→List Nat
 | [],cl=>cl
 | o::os,cl=>closB os (cl++[bitsE o cl])
def rdOf (ops:List Oper) (o:Oper):List Tmp:=o.looksAt ops.toArray
def confB (ops:List Oper) (oi oj:Oper) (ei ej:SEv):Bool:=
 (match oi.dst with | some d=>(rdOf ops oj).contains d||oj.dst==some d | none=>false) ||
 (match oj.dst with | some d=>(rdOf ops oi).contains d | none=>false) ||
 (match ei.wb with | some x=>ej.rb.contains x.1||(match ej.wb with | some y=>x.1==y.1 | none=>false) | none=>false) ||
 (match ej.wb with | some y=>ei.rb.contains y.1 | none=>false)
def nameB (N0 i cl b:Nat):Bool:=decide (b<N0)||(b==N0+i)||cl.testBit (b-N0)
def okEv (N N0 i cl:Nat) (o:Oper) (ev:SEv):Bool:=
 ev.val.okn (nameB N0 i cl)&&(match ev.wb with | some x=>x.2.2.all (·.okn (nameB N0 i cl)) | none=>true)&&(match o.dst with | some t=>decide (t<N) | none=>true)
def allConf (ops:List Oper) (evs:List SEv) (cl:List Nat):Bool:=
 (List.range ops.length).all fun j=>(List.range j).all fun i=>match ops[i]?,ops[j]?,evs[i]?,evs[j]? with
  | some oi,some oj,some ei,some ej=>!confB ops oi oj ei ej||(cl.getD j 0).testBit i
  | _,_,_,_=>false
def allOk (N N0:Nat) (ops:List Oper) (evs:List SEv) (cl:List Nat):Bool:=
 (List.range ops.length).all fun i=>match ops[i]?,evs[i]? with
  | some o,some ev=>okEv N N0 i (cl.getD i 0) o ev
  | _,_=>false
section
variable {P : Program} {g : TypeId → Option (List Nat)} {ops : List Oper} {evs : List SEv} {s0 s : St} {ρ : List Av}
theorem runR_at:∀ {os:List Oper} {k:Nat} {s s':St} {na na':Nat} {es:List SEv},(∀j,os[j]?=ops[k+j]?)→(∀j,es[j]?=evs[k+j]?)→runR P g ρ ops os s na=some (es,s',na')→stAt ops evs s0 k=s→
 es.length=os.length∧stAt ops evs s0 (k+os.length)=s'∧∀j o ev,ops[k+j]?=some o→evs[k+j]?=some ev→j<os.length→∃m,absG P g ρ ops (stAt ops evs s0 (k+j)).h.length m (stAt ops evs s0 (k+j)) o=some ev
 | [],k,s,s',na,na',es,h1,h2,h,hs=>by
  cases h;exact ⟨rfl,hs,fun j o ev _ _ hj=>by simp at hj⟩
 | o::os,k,s,s',na,na',es,h1,h2,h,hs=>by
  unfold runR at h;split at h
  ·rename_i ev hev
   split at h
   ·rename_i es1 s1 na1 hrun
    cases h;have ho:ops[k]?=some o:=by have:=h1 0;simpa using this.symm
    have he:evs[k]?=some ev:=by have:=h2 0;simpa using this.symm
    have aA:stAt ops evs s0 (k+1)=stepSt s o ev:=by show (match ops[k]?,evs[k]? with | some o,some ev=>stepSt (stAt ops evs s0 k) o ev | _,_=>_)=_;rw[ho,he,hs]
    obtain⟨h3,h4,h5⟩:=runR_at (k:=k+1) (fun j=>by have:=h1 (j+1);simpa [Nat.add_assoc,Nat.add_comm 1 j] using this) (fun j=>by have:=h2 (j+1);simpa [Nat.add_assoc,Nat.add_comm 1 j] using this) hrun aA;refine ⟨by simp[h3],by simpa [Nat.add_assoc,Nat.add_comm 1] using h4,fun j o' ev' ho' hev' hj=>?_⟩;cases j with
    | zero=>
     rw[Nat.add_zero]at ho' hev' ⊢;rw[ho]at ho';rw[he]at hev';cases ho';cases hev';rw[hs];exact ⟨na,hev⟩
    | succ j=>
     have:=h5 j o' ev' (by rw[show k+1+j=k+(j+1) by omega];exact ho') (by rw[show k+1+j=k+(j+1) by omega];exact hev') (by simp at hj;omega);rw[show k+1+j=k+(j+1) by omega]at this;exact this
   ·cases h
  ·cases h
theorem bitsE_mem {o:Oper} {cl:List Nat} {j:Nat} (h:(bitsE o cl).testBit j=true):∃e∈o.after,Region.binds .any e=true∧(j=e.on∨(cl.getD e.on 0).testBit j=true):=by
 unfold bitsE at h;have aA:∀(l:List Edge) (m:Nat),(l.foldl (fun m e=>if Region.binds .any e then m ||| 2 ^ e.on ||| cl.getD e.on 0 else m) m).testBit j=true→
  m.testBit j=true∨∃e∈l,Region.binds .any e=true∧(j=e.on∨(cl.getD e.on 0).testBit j=true):=by
  intro l;induction l with
  | nil=>intro m h;exact .inl h
  | cons e l ih=>
   intro m h;simp only[List.foldl_cons]at h;rcases ih _ h with h1 | ⟨e',he',h1⟩
   ·split at h1
    ·rename_i hb
     simp only[Nat.testBit_or,Nat.testBit_two_pow,Bool.or_eq_true,decide_eq_true_eq]at h1;rcases h1 with (h1 | h1) | h1
     ·exact .inl h1
     ·exact .inr ⟨e,by simp,hb,.inl h1.symm⟩
     ·exact .inr ⟨e,by simp,hb,.inr h1⟩
    ·exact .inl h1
   ·exact .inr ⟨e',by simp[he'],h1⟩
 rcases aA _ _ h with h1 | ⟨e,he,h1⟩
 ·simp at h1
 ·exact ⟨e,by simpa using he,h1⟩
def closedB (ops:List Oper) (cl:List Nat):Bool:=ops.zipIdx.all fun (o,i)=>cl.getD i 0==bitsE o cl
theorem clos_mem {cl:List Nat} {D:Nat→Bool} (hin:inOrder ops=true) (hcl:closedB ops cl=true) (hdc:∀i o,ops[i]?=some o→D i=true→∀e∈o.after,Region.binds .any e=true→D e.on=true) :
 ∀(i:Nat) (o:Oper),ops[i]?=some o→(∀e∈o.after,Region.binds .any e=true→D e.on=true)→∀j,(cl.getD i 0).testBit j=true→D j=true:=by
 intro i;induction i using Nat.strongRecOn with
 | _ i ih=>
  intro o ho hp j hj;have h1:=List.all_eq_true.1 hcl (o,i) (by rw[List.mem_zipIdx_iff_getElem?];exact ho);rw[beq_iff_eq]at h1;rw[show cl.getD i 0=bitsE o cl from h1]at hj;obtain⟨e,he,hb,h2⟩:=bitsE_mem hj;rcases h2 with rfl | h2
  ·exact hp e he hb
  ·have aB:=Ij hin ho e he hb;have aC:=(List.getElem?_eq_some_iff.1 ho).1;have aA:ops[e.on]?=some (ops[e.on]'(by omega)):=List.getElem?_eq_getElem (by omega);exact ih e.on aB _ aA (fun e' he' hb'=>hdc e.on _ aA (hp e he hb) e' he' hb') j h2
end
end
section
def regB (ops:List Oper) (s:St) (evs:List SEv):Bool:=
 inOrder ops&&allConf ops evs (closB ops [])&&allOk s.σ.length s.h.length ops evs (closB ops [])&&closedB ops (closB ops [])&&ops.length==evs.length
structure Kpt (s : St) (μ : Nat → Nat) (w w' : World) : Prop where
 os:w'.os=w.os
 tape:w'.tape=w.tape
 output:w'.output=w.output
 size:w.heap.size≤w'.heap.size
 block:∀k,k<w.heap.size→(∀b,(s.blk b).isSome=true→μ b≠k)→w'.heap[k]?=w.heap[k]?
structure Rel (ρ : List Av) (s : St) (μ : Nat → Nat) (a : Act) (w : World) : Prop where
 size:a.tmps.size=s.σ.length
 df:a.defers=[]
 tm:∀(t:Nat) x,s.σ[t]?=some x→a.tmps.getD t undef=x.val ρ μ
 bl:∀b T cs,s.blk b=some (T,cs)→Bk w (μ b) T (cellsL ρ μ cs)
 inj:∀b b',(s.blk b).isSome=true→(s.blk b').isSome=true→μ b=μ b'→b=b'
 nT:∀(t:Nat) x,s.σ[t]?=some x→x.okn (fun b=>decide (b<s.h.length))=true
 nB:∀b T cs,s.blk b=some (T,cs)→cs.all (·.okn fun b=>decide (b<s.h.length))=true
theorem blk_lt {s:St} {b:Nat} (h:(s.blk b).isSome=true):b<s.h.length:=by
 unfold St.blk at h;rcases Nat.lt_or_ge b s.h.length with h1 | h1
 ·exact h1
 ·rw[List.getElem?_eq_none h1]at h;cases h
section
variable {P : Program} {g : TypeId → Option (List Nat)} {ops : List Oper} {evs : List SEv} {s0 : St} {ρ : List Av}
def wrT (ops:List Oper) (evs:List SEv) (t:Nat) (i:Nat):Option (Option SV):=match ops[i]?,evs[i]? with
 | some o,some ev=>if o.dst=some t then some (some ev.val) else none
 | _,_=>none
def wrB (evs:List SEv) (b:Nat) (i:Nat):Option (Option (TypeId×List Sg)):=match evs[i]? with
 | some ev=>match ev.wb with
  | some x=>if x.1=b then some (some x.2) else none
  | none=>none
 | none=>none
def sD (ops:List Oper) (evs:List SEv) (s0:St) (D:Nat→Bool) (t:Nat):Option SV:=lastW (wrT ops evs t) D ops.length s0.σ[t]?
def hD (ops:List Oper) (evs:List SEv) (s0:St) (D:Nat→Bool) (b:Nat):Option (TypeId×List Sg):=lastW (wrB evs b) D ops.length (s0.blk b)
theorem len_step (s:St) (o:Oper) (ev:SEv):(stepSt s o ev).h.length=s.h.length+1:=by
 unfold stepSt;cases ev.wb with
 | none=>simp
 | some x=>
  obtain⟨b,T,cs⟩:=x;simp only;split<;>simp
theorem lenσ_step (s:St) (o:Oper) (ev:SEv):(stepSt s o ev).σ.length=s.σ.length:=by
 unfold stepSt;cases o.dst<;>simp
theorem len_stAt (hl:ops.length=evs.length):∀k,k≤ops.length→(stAt ops evs s0 k).h.length=s0.h.length+k∧(stAt ops evs s0 k).σ.length=s0.σ.length
 | 0,_=>⟨rfl,rfl⟩
 | k+1,h=>by
  obtain⟨h1,h2⟩:=len_stAt hl k (by omega);have ho:ops[k]?=some (ops[k]'(by omega)):=List.getElem?_eq_getElem (by omega);have he:evs[k]?=some (evs[k]'(by omega)):=List.getElem?_eq_getElem (by omega);unfold stAt;rw[ho,he];simp only;rw[len_step,lenσ_step,h1,h2];exact ⟨by omega,rfl⟩
def wbOk (s:St) (ev:SEv):Prop:=∀x,ev.wb=some x→x.1=s.h.length∨(x.1<s.h.length∧(s.blk x.1).isSome=true)
theorem stAt_σ (hl:ops.length=evs.length) (hok:∀(i:Nat) (o:Oper) (ev:SEv),ops[i]?=some o→evs[i]?=some ev→∀t,o.dst=some t→t<s0.σ.length):∀k,k≤ops.length→∀t:Nat,(stAt ops evs s0 k).σ[t]?=lastW (wrT ops evs t) (fun _=>true) k s0.σ[t]?
 | 0,_,t=>rfl
 | k+1,h,t=>by
  have ih:=stAt_σ hl hok k (by omega) t;have ho:ops[k]?=some (ops[k]'(by omega)):=List.getElem?_eq_getElem (by omega);have he:evs[k]?=some (evs[k]'(by omega)):=List.getElem?_eq_getElem (by omega);obtain⟨_,aA⟩:=len_stAt (s0:=s0) hl k (by omega);unfold stAt lastW;rw[if_pos rfl,ho,he];simp only;have hw:wrT ops evs t k=if (ops[k]'(by omega)).dst=some t then some (some (evs[k]'(by omega)).val) else none:=by unfold wrT;rw[ho,he]
  rw[hw];unfold stepSt;cases hd:(ops[k]'(by omega)).dst with
  | none=>simp[ih]
  | some d=>
   have aB:=hok k _ _ ho he d hd;simp only[Option.some.injEq];by_cases hdt:d=t
   ·subst hdt;rw[if_pos rfl,List.getElem?_set_self (by rw[aA];exact aB)];rfl
   ·rw[if_neg hdt,List.getElem?_set_ne hdt,ih];rfl
theorem stAt_blk (hl:ops.length=evs.length) (hok:∀(i:Nat) (o:Oper) (ev:SEv),ops[i]?=some o→evs[i]?=some ev→wbOk (stAt ops evs s0 i) ev):∀k,k≤ops.length→∀b,(stAt ops evs s0 k).blk b=lastW (wrB evs b) (fun _=>true) k (s0.blk b)
 | 0,_,b=>rfl
 | k+1,h,b=>by
  have ih:=stAt_blk hl hok k (by omega) b;have ho:ops[k]?=some (ops[k]'(by omega)):=List.getElem?_eq_getElem (by omega);have he:evs[k]?=some (evs[k]'(by omega)):=List.getElem?_eq_getElem (by omega);have aC:=hok k _ _ ho he;unfold stAt lastW;rw[if_pos rfl,ho,he];simp only;have hw:wrB evs b k=match (evs[k]'(by omega)).wb with | some x=>if x.1=b then some (some x.2) else none | none=>none:=by
   unfold wrB;rw[he]
  rw[hw];generalize hs:stAt ops evs s0 k=s at *;have aB:∀(u:Option (TypeId×List Sg)) (h':List (Option (TypeId×List Sg))),b≠h'.length→(h'++[u])[b]?.join=h'[b]?.join:=by
   intro u h' aD;rcases Nat.lt_or_ge b h'.length with h1 | h1
   ·rw[List.getElem?_append_left h1]
   ·rw[List.getElem?_append_right h1,List.getElem?_eq_none (l:=h') h1];rw[List.getElem?_eq_none (by simp;omega)]
  have aA:∀h':List (Option (TypeId×List Sg)),(h'++[none])[b]?.join=h'[b]?.join:=by
   intro h';by_cases hb:b=h'.length
   ·subst hb;simp
   ·exact aB _ _ hb
  rw[←ih];unfold stepSt St.blk;cases hx:(evs[k]'(by omega)).wb with
  | none=>simp only[aA];rfl
  | some x=>
   obtain⟨b',T,cs⟩:=x;simp only;rcases aC _ hx with h1 | ⟨h1,h2⟩
   ·simp only at h1;subst h1;rw[if_pos rfl];by_cases hb:s.h.length=b
    ·subst hb;simp
    ·rw[if_neg hb];exact aB _ _ (fun e=>hb e.symm)
   ·simp only at h1 h2;rw[if_neg (by omega)];simp only[aA];by_cases hb:b'=b
    ·subst hb;rw[if_pos rfl];simp[h1]
    ·rw[if_neg hb,List.getElem?_set_ne hb];rfl
structure RInv (P : Program) (ops : List Oper) (evs : List SEv) (s0 : St) (ρ : List Av) (μ0 : Nat → Nat) (w0 : World) (D : Nat → Bool) (μ : Nat → Nat) (a : Act) (w : World) : Prop where
 dc:∀i o,ops[i]?=some o→D i=true→∀e∈o.after,Region.binds .any e=true→D e.on=true
 size:a.tmps.size=s0.σ.length
 df:a.defers=[]
 tm:∀t x,sD ops evs s0 D t=some x→a.tmps.getD t undef=x.val ρ μ
 bl:∀b T cs,hD ops evs s0 D b=some (T,cs)→Bk w (μ b) T (cellsL ρ μ cs)
 inj:∀b b',(hD ops evs s0 D b).isSome=true→(hD ops evs s0 D b').isSome=true→μ b=μ b'→b=b'
 nT:∀t x,sD ops evs s0 D t=some x→x.okn (fun b=>decide (b<s0.h.length)||D (b-s0.h.length))=true
 nB:∀b T cs,hD ops evs s0 D b=some (T,cs)→cs.all (·.okn fun b=>decide (b<s0.h.length)||D (b-s0.h.length))=true
 kp:Kpt s0 μ0 w0 w
 old:∀b,b<s0.h.length→μ b=μ0 b
 new:∀b,(hD ops evs s0 D b).isSome=true→s0.h.length≤b→w0.heap.size≤μ b
 ini:∀b,(hD ops evs s0 D b).isSome=true→b<s0.h.length→(s0.blk b).isSome=true
 nmD:∀b,(hD ops evs s0 D b).isSome=true→b<s0.h.length∨D (b-s0.h.length)=true
theorem Kpt.trans_below {s:St} {μ:Nat→Nat} {w w' w'':World} (h:Kpt s μ w w') (hb:Below w'.heap.size w' w''):Kpt s μ w w'':=
 ⟨hb.os.trans h.os,hb.tape.trans h.tape,hb.output.trans h.output,Nat.le_trans h.size hb.size,fun k hk hn=>(hb.block k (Nat.lt_of_lt_of_le hk h.size)).trans (h.block k hk hn)⟩
theorem Kpt.trans_grown {s:St} {μ:Nat→Nat} {w w' w'':World} {r:Nat} (h:Kpt s μ w w') (hb:w'.grownBy w'' (some r)) (hr:w.heap.size≤r∨∃b,(s.blk b).isSome=true∧μ b=r):Kpt s μ w w'':=
 ⟨hb.os.trans h.os,hb.tape.trans h.tape,hb.output.trans h.output,Nat.le_trans h.size hb.size,fun k hk hn=>(hb.block k (Nat.lt_of_lt_of_le hk h.size) (fun e=>by
  injection e with e;rcases hr with hr | ⟨b,h1,h2⟩
  ·omega
  ·exact hn b h1 (by omega))).trans (h.block k hk hn)⟩
theorem allConf_at {cl:List Nat} (h:allConf ops evs cl=true) {i j:Nat} {oi oj:Oper} {ei ej:SEv} (hij:i<j) (hoi:ops[i]?=some oi) (hoj:ops[j]?=some oj) (hei:evs[i]?=some ei) (hej:evs[j]?=some ej) (hc:confB ops oi oj ei ej=true):(cl.getD j 0).testBit i=true:=by
 have hj:=(List.getElem?_eq_some_iff.1 hoj).1;have h1:=List.all_eq_true.1 (List.all_eq_true.1 h j (List.mem_range.2 hj)) i (List.mem_range.2 hij);simp only[hoi,hoj,hei,hej,hc,Bool.not_true,Bool.false_or]at h1;exact h1
theorem allOk_at {N N0:Nat} {cl:List Nat} (h:allOk N N0 ops evs cl=true) {i:Nat} {o:Oper} {ev:SEv} (ho:ops[i]?=some o) (he:evs[i]?=some ev):okEv N N0 i (cl.getD i 0) o ev=true:=by
 have hi:=(List.getElem?_eq_some_iff.1 ho).1;have h1:=List.all_eq_true.1 h i (List.mem_range.2 hi);simp only[ho,he]at h1;exact h1
theorem okn_mono {N N':Nat→Bool} (h:∀b,N b=true→N' b=true):∀ {l:List Sg},l.all (·.okn N)=true→l.all (·.okn N')=true:=by
 intro l hl;refine List.all_eq_true.2 fun x hx=>?_;have:=List.all_eq_true.1 hl x hx;cases x<;>first | rfl | exact h _ this
theorem SV.okn_mono {N N':Nat→Bool} (h:∀b,N b=true→N' b=true) {x:SV} (hx:x.okn N=true):x.okn N'=true:=by
 cases x with
 | v a l=>exact Go.Proofs.YtlegpkdighoflaaGreat.okn_mono h hx
 | tup l=>exact List.all_eq_true.2 fun y hy=>Go.Proofs.YtlegpkdighoflaaGreat.okn_mono h (List.all_eq_true.1 hx y hy)
end
end
section
variable {P : Program} {g : TypeId → Option (List Nat)} {ops : List Oper} {evs : List SEv} {s0 : St} {ρ : List Av} {μ0 : Nat → Nat} {w0 : World} {D : Nat → Bool} {μ : Nat → Nat} {a : Act} {w : World} {i : Nat} {o : Oper} {ev : SEv}
structure RegOk (ops : List Oper) (s0 : St) (evs : List SEv) : Prop where
 inn:inOrder ops=true
 conf:allConf ops evs (closB ops [])=true
 ok:allOk s0.σ.length s0.h.length ops evs (closB ops [])=true
 clo:closedB ops (closB ops [])=true
 len:ops.length=evs.length
theorem regB_ok (h:regB ops s0 evs=true):RegOk ops s0 evs:=by
 unfold regB at h;simp only[Bool.and_eq_true,beq_iff_eq]at h;exact ⟨h.1.1.1.1,h.1.1.1.2,h.1.1.2,h.1.2,h.2⟩
theorem RegOk.dstlt (h:RegOk ops s0 evs):∀(i:Nat) (o:Oper) (ev:SEv),ops[i]?=some o→evs[i]?=some ev→∀t,o.dst=some t→t<s0.σ.length:=by
 intro i o ev ho he t ht;have:=allOk_at h.ok ho he;unfold okEv at this;simp only[Bool.and_eq_true,ht,decide_eq_true_eq]at this;exact this.2
theorem agreeD {α:Type} {wr:Nat→Option α} {x:α} (hr:RegOk ops s0 evs) (hI:RInv P ops evs s0 ρ μ0 w0 D μ a w) (ho:ops[i]?=some o) (he:evs[i]?=some ev) (hi:D i=false) (hp:∀e∈o.after,Region.binds .any e=true→D e.on=true)
 (hw:∀j oj ej,ops[j]?=some oj→evs[j]?=some ej→wr j≠none→confB ops oj o ej ev=true∧confB ops o oj ev ej=true) :
 lastW wr D ops.length x=lastW wr (fun _=>true) i x:=by
 have aD:=(List.getElem?_eq_some_iff.1 ho).1;rw[←lastW_below (n:=ops.length) (by omega)];refine lastW_congr fun j hj hne=>?_;apply Classical.byContradiction;intro hn;have aA:=List.getElem?_eq_getElem hj;have aB:evs[j]?=some (evs[j]'(by rw[←hr.len];exact hj)):=List.getElem?_eq_getElem _;obtain⟨h1,h2⟩:=hw j _ _ aA aB hn;by_cases hji:j<i
 ·have h3:=clos_mem hr.inn hr.clo hI.dc i o ho hp j (allConf_at hr.conf hji aA ho aB he h1);simp[hji,h3]at hne
 ·have h3:D j=true:=by
   cases hd:D j with
   | true=>rfl
   | false=>simp[hji,hd]at hne
  have aC:i<j:=by
   have:i≠j:=fun e=>by subst e;rw[hi]at h3;cases h3
   omega
  have h4:=clos_mem hr.inn hr.clo hI.dc j _ aA (hI.dc j _ aA h3) i (allConf_at hr.conf aC ho aA he aB h2);rw[hi]at h4;cases h4
theorem readT (hr:RegOk ops s0 evs) (hI:RInv P ops evs s0 ρ μ0 w0 D μ a w) (ho:ops[i]?=some o) (he:evs[i]?=some ev) (hi:D i=false) (hp:∀e∈o.after,Region.binds .any e=true→D e.on=true)
 {t:Nat} (ht:t∈rdOf ops o):sD ops evs s0 D t=(stAt ops evs s0 i).σ[t]?:=by
 have aA:=(List.getElem?_eq_some_iff.1 ho).1;rw[stAt_σ hr.len hr.dstlt i (by omega)];refine agreeD hr hI ho he hi hp fun j oj ej hoj hej hn=>?_;have hd:oj.dst=some t:=by
  unfold wrT at hn;rw[hoj,hej]at hn;simp only at hn;split at hn
  ·assumption
  ·exact absurd rfl hn
 unfold confB;rw[hd];simp[ht]
theorem readB (hr:RegOk ops s0 evs) (hwb:∀(i:Nat) (o:Oper) (ev:SEv),ops[i]?=some o→evs[i]?=some ev→wbOk (stAt ops evs s0 i) ev) (hI:RInv P ops evs s0 ρ μ0 w0 D μ a w) (ho:ops[i]?=some o) (he:evs[i]?=some ev) (hi:D i=false)
 (hp:∀e∈o.after,Region.binds .any e=true→D e.on=true) {b:Nat} (hb:b∈ev.rb):hD ops evs s0 D b=(stAt ops evs s0 i).blk b:=by
 have aA:=(List.getElem?_eq_some_iff.1 ho).1;rw[stAt_blk hr.len hwb i (by omega)];refine agreeD hr hI ho he hi hp fun j oj ej hoj hej hn=>?_;have hd:∃x,ej.wb=some x∧x.1=b:=by
  unfold wrB at hn;rw[hej]at hn;simp only at hn;split at hn
  ·rename_i x hx
   split at hn
   ·rename_i h1;exact ⟨x,hx,h1⟩
   ·exact absurd rfl hn
  ·exact absurd rfl hn
 obtain⟨x,hx,rfl⟩:=hd;unfold confB;rw[hx];simp[hb]
theorem wanted_at (hr:RegOk ops s0 evs) (hI:RInv P ops evs s0 ρ μ0 w0 D μ a w) (ho:ops[i]?=some o) (he:evs[i]?=some ev) (hi:D i=false) (hp:∀e∈o.after,Region.binds .any e=true→D e.on=true)
 {b:Bool} (hb:wantB ρ ops (stAt ops evs s0 i) o=some b):Region.wanted o (yielded ops.toArray a.tmps)=b:=by
 unfold wantB at hb;unfold Region.wanted;cases hg:o.guard with
 | none=>rw[hg]at hb;simp only[Option.some.injEq]at hb;exact hb
 | some jw=>
  obtain⟨j,aA⟩:=jw;rw[hg]at hb;simp only at hb ⊢;cases hd:(ops[j]?).bind (·.dst) with
  | none=>rw[hd]at hb;cases hb
  | some t=>
   rw[hd]at hb;simp only at hb;have ht:t∈rdOf ops o:=by
    unfold rdOf Oper.looksAt;refine List.mem_append_right _ ?_;rw[hg];simp[hd]
   have h1:=readT hr hI ho he hi hp ht;split at hb
   ·rename_i u hu
    have h2:a.tmps.getD t undef=.bool u:=by
     cases hx:(stAt ops evs s0 i).σ[t]? with
     | none=>rw[hx]at hu;cases hu
     | some x=>rw[hx]at hu h1;exact (hI.tm t _ h1).trans (boolOf_val hu)
    have h3:a.tmps[t]?=some (.bool u):=by
     rw[Array.getD_eq_getD_getElem?]at h2;cases h4:a.tmps[t]? with
     | none=>rw[h4]at h2;cases h2
     | some z=>rw[h4]at h2;simp only[Option.getD_some]at h2;rw[h2]
    unfold yielded;simp only[List.getElem?_toArray,hd,Option.bind_some,h3];simp only[Option.some.injEq]at hb;rw[←hb];cases u<;>cases aA<;>rfl
   ·split at hb
    ·rename_i vs hu
     have h2:a.tmps.getD t undef=.tuple vs:=hI.tm t _ (h1.trans hu);have h3:yielded ops.toArray a.tmps j=none:=by
      unfold yielded;simp only[List.getElem?_toArray,hd,Option.bind_some];rw[Array.getD_eq_getD_getElem?]at h2;cases h4:a.tmps[t]? with
      | none=>rfl
      | some z=>rw[h4]at h2;simp only[Option.getD_some]at h2;rw[h2]
     rw[h3];simp only[Option.some.injEq]at hb;rw[←hb];rfl
    ·cases hb
theorem nameB_D {N0 cl b:Nat} (h:nameB N0 i cl b=true) (hc:∀j,cl.testBit j=true→D j=true):(decide (b<N0)||addD D i (b-N0))=true:=by
 unfold nameB at h;simp only[Bool.or_eq_true,decide_eq_true_eq,beq_iff_eq]at h ⊢;rcases h with (h | h) | h
 ·exact .inl h
 ·subst h;exact .inr (by simp[addD])
 ·exact .inr (by simp[addD,hc _ h])
theorem addD_of {D:Nat→Bool} {N0 b:Nat} (h:(decide (b<N0)||D (b-N0))=true):(decide (b<N0)||addD D i (b-N0))=true:=by
 simp only[Bool.or_eq_true]at h ⊢;rcases h with h | h
 ·exact .inl h
 ·exact .inr (by simp[addD,h])
theorem sD_add_ne (ho:ops[i]?=some o) {t:Nat} (ht:o.dst≠some t):sD ops evs s0 (addD D i) t=sD ops evs s0 D t:=by
 refine lastW_add_none ?_;unfold wrT;rw[ho];cases evs[i]? with
 | none=>rfl
 | some ev=>simp only;rw[if_neg ht]
theorem hD_add_ne (he:evs[i]?=some ev) {b:Nat} (hb:∀x,ev.wb=some x→x.1≠b):hD ops evs s0 (addD D i) b=hD ops evs s0 D b:=by
 refine lastW_add_none ?_;unfold wrB;rw[he];simp only;cases hx:ev.wb with
 | none=>rfl
 | some x=>simp only;rw[if_neg (hb x hx)]
theorem sD_add_eq (hr:RegOk ops s0 evs) (hI:RInv P ops evs s0 ρ μ0 w0 D μ a w) (ho:ops[i]?=some o) (he:evs[i]?=some ev) (hi:D i=false) {t:Nat} (ht:o.dst=some t):sD ops evs s0 (addD D i) t=some ev.val:=by
 have aC:=(List.getElem?_eq_some_iff.1 ho).1;refine lastW_some (i:=i) (v:=some ev.val) (by unfold wrT;rw[ho,he];simp only;rw[if_pos ht]) (by simp[addD]) aC fun j hij hj hd=>?_;apply Classical.byContradiction;intro hn;have aA:=List.getElem?_eq_getElem hj;have aB:evs[j]?=some (evs[j]'(by rw[←hr.len];exact hj)):=List.getElem?_eq_getElem _;have h3:D j=true:=by
  simp only[addD,Bool.or_eq_true,decide_eq_true_eq]at hd;rcases hd with h | h
  ·omega
  ·exact h
 have aD:ops[j].dst=some t:=by
  unfold wrT at hn;rw[aA,aB]at hn;simp only at hn;split at hn
  ·assumption
  ·exact absurd rfl hn
 have h4:=clos_mem hr.inn hr.clo hI.dc j _ aA (hI.dc j _ aA h3) i (allConf_at hr.conf hij ho aA he aB (by unfold confB;rw[ht,aD];simp));rw[hi]at h4;cases h4
theorem hD_add_eq (hr:RegOk ops s0 evs) (hI:RInv P ops evs s0 ρ μ0 w0 D μ a w) (ho:ops[i]?=some o) (he:evs[i]?=some ev) (hi:D i=false) {b:Nat} {T:TypeId} {cs:List Sg} (hb:ev.wb=some (b,T,cs)):hD ops evs s0 (addD D i) b=some (T,cs):=by
 have aC:=(List.getElem?_eq_some_iff.1 ho).1;refine lastW_some (i:=i) (v:=some (T,cs)) (by unfold wrB;rw[he];simp[hb]) (by simp[addD]) aC fun j hij hj hd=>?_;apply Classical.byContradiction;intro hn;have aA:=List.getElem?_eq_getElem hj;have aB:evs[j]?=some (evs[j]'(by rw[←hr.len];exact hj)):=List.getElem?_eq_getElem _;have h3:D j=true:=by
  simp only[addD,Bool.or_eq_true,decide_eq_true_eq]at hd;rcases hd with h | h
  ·omega
  ·exact h
 have aD:∃x,(evs[j]'(by rw[←hr.len];exact hj)).wb=some x∧x.1=b:=by
  unfold wrB at hn;rw[aB]at hn;simp only at hn;split at hn
  ·rename_i x hx
   split at hn
   ·rename_i h1;exact ⟨x,hx,h1⟩
   ·exact absurd rfl hn
  ·exact absurd rfl hn
 obtain⟨x,hx,aE⟩:=aD;have h4:=clos_mem hr.inn hr.clo hI.dc j _ aA (hI.dc j _ aA h3) i (allConf_at hr.conf hij ho aA he aB (by unfold confB;rw[hb,hx];simp[aE]));rw[hi]at h4;cases h4
end
section
variable {P : Program} {g : TypeId → Option (List Nat)} {ops : List Oper} {evs : List SEv} {s0 : St} {ρ : List Av} {μ0 : Nat → Nat} {w0 : World} {D : Nat → Bool} {μ : Nat → Nat} {a : Act} {w : World} {i : Nat} {o : Oper} {ev : SEv}
theorem getD_put {a:Act} {t d:Nat} {v:Value}:(a.put (some d) v).tmps.getD t undef=if d=t∧t<a.tmps.size then v else a.tmps.getD t undef:=by
 unfold Act.put;simp only[Array.getD_eq_getD_getElem?];by_cases h:d=t
 ·subst h;by_cases hl:d<a.tmps.size
  ·rw[if_pos ⟨rfl,hl⟩,Array.getElem?_setIfInBounds_self_of_lt hl];rfl
  ·rw[if_neg (by simp[hl]),Array.getElem?_eq_none (by simpa using hl),Array.getElem?_eq_none (by simpa using hl)]
 ·rw[if_neg (fun h'=>h h'.1),Array.getElem?_setIfInBounds_ne h]
theorem rinv_upd (hr:RegOk ops s0 evs) (hwb:∀(i:Nat) (o:Oper) (ev:SEv),ops[i]?=some o→evs[i]?=some ev→wbOk (stAt ops evs s0 i) ev) (hI:RInv P ops evs s0 ρ μ0 w0 D μ a w) (ho:ops[i]?=some o) (he:evs[i]?=some ev) (hi:D i=false)
 (hp:∀e∈o.after,Region.binds .any e=true→D e.on=true) {μ':Nat→Nat} {w':World} (hE:EffOk ρ (stAt ops evs s0 i) (stAt ops evs s0 i).h.length ev μ w μ' w') :
 RInv P ops evs s0 ρ μ0 w0 (addD D i) μ' (a.put o.dst (ev.val.val ρ μ')) w':=by
 have aU:=(List.getElem?_eq_some_iff.1 ho).1;have aJ:=(len_stAt (s0:=s0) hr.len i (by omega)).1;rw[aJ]at hE;have aM:=clos_mem hr.inn hr.clo hI.dc i o ho hp;have aE:=allOk_at hr.ok ho he;unfold okEv at aE;simp only[Bool.and_eq_true]at aE;obtain⟨⟨aK,aF⟩,aR⟩:=aE;have hμ:∀b,(decide (b<s0.h.length)||D (b-s0.h.length))=true→μ b=μ' b:=by
  intro b hb;unfold EffOk at hE;have aS:(b != s0.h.length+i)=true:=by
   simp only[bne_iff_ne,ne_eq];intro e;subst e;rw[Nat.add_sub_cancel_left,hi]at hb;simp only[Bool.or_false,decide_eq_true_eq]at hb;omega
  split at hE
  ·rw[hE.1]
  ·rcases hE with ⟨_,h2,_⟩ | ⟨_,_,h2,_⟩
   ·rw[h2];exact upN_ne aS
   ·rw[h2]
 have aB:w.grownBy w' none∨∃b T cs,ev.wb=some (b,T,cs)∧b∈ev.rb∧(∃T0 cs0,(stAt ops evs s0 i).blk b=some (T0,cs0))∧μ'=μ∧w.grownBy w' (some (μ b)):=by
  unfold EffOk at hE;split at hE
  ·exact .inl ⟨hE.2.os,hE.2.tape,hE.2.output,hE.2.size,fun k hk _=>hE.2.block k hk⟩
  ·rename_i b T cs hx
   rcases hE with ⟨_,_,h3,_⟩ | ⟨h1,h2,h3,h4,_⟩
   ·exact .inl ⟨h3.os,h3.tape,h3.output,h3.size,fun k hk _=>h3.block k hk⟩
   ·exact .inr ⟨b,T,cs,hx,h1,h2,h3,h4⟩
 have aN:w.heap.size≤w'.heap.size:=by rcases aB with h | ⟨_,_,_,_,_,_,_,h⟩<;>exact h.size
 have aG:∀b T cs,hD ops evs s0 D b=some (T,cs)→(∀x,ev.wb=some x→x.1≠b)→Bk w' (μ' b) T (cellsL ρ μ' cs):=by
  intro b T cs hb hx;have h1:=hI.bl b T cs hb;have h2:=hI.nB b T cs hb;have aH:=hI.nmD b (by rw[hb];rfl);rw[←hμ b (by simp only[Bool.or_eq_true,decide_eq_true_eq];exact aH),←cellsL_congr hμ h2];rcases aB with h | ⟨b',T',cs',hx',hrb,⟨T0,cs0,hbk⟩,h3,h4⟩
  ·exact h1.grown h (by simp)
  ·refine h1.grown h4 fun e=>?_;injection e with e;have h5:=readB hr hwb hI ho he hi hp hrb;have:=hI.inj b b' (by rw[hb];rfl) (by rw[h5,hbk];rfl) e;exact hx _ hx' this.symm
 have aA:∀b,(∀x,ev.wb=some x→x.1≠b)∨∃T cs,ev.wb=some (b,T,cs):=by
  intro b;cases hx:ev.wb with
  | none=>exact .inl fun x h=>by cases h
  | some x=>
   by_cases hb:x.1=b
   ·subst hb;exact .inr ⟨x.2.1,x.2.2,rfl⟩
   ·exact .inl fun y h=>by cases h;exact hb
 have aC:∀b T cs,ev.wb=some (b,T,cs)→Bk w' (μ' b) T (cellsL ρ μ' cs)∧((b=s0.h.length+i∧μ' b=w.heap.size)∨(μ'=μ∧∃T0 cs0,hD ops evs s0 D b=some (T0,cs0))):=by
  intro b T cs hx;unfold EffOk at hE;rw[hx]at hE;rcases hE with ⟨h1,h2,h3,h4⟩ | ⟨h1,⟨T0,cs0,h2⟩,h3,h4,h5,h6⟩
  ·have h7:μ' b=w.heap.size:=by rw[h2,h1];exact upN_self _ _ _
   exact ⟨by rw[h7];exact h4,.inl ⟨h1,h7⟩⟩
  ·have h7:=readB hr hwb hI ho he hi hp h1;exact ⟨by rw[h3];exact h6,.inr ⟨h3,T0,cs0,by rw[h7];exact h2⟩⟩
 refine ⟨?_,?_,?_,?_,?_,?_,?_,?_,?_,?_,?_,?_,?_⟩
 ·
  intro j oj aL hd e aO hb;simp only[addD,Bool.or_eq_true,decide_eq_true_eq]at hd;rcases hd with rfl | hd
  ·rw[ho]at aL;cases aL;simp[addD,hp e aO hb]
  ·simp[addD,hI.dc j oj aL hd e aO hb]
 ·rw[A2h];exact hI.size
 ·cases hd:o.dst<;>exact hI.df
 ·
  intro t x hx;by_cases ht:o.dst=some t
  ·rw[sD_add_eq hr hI ho he hi ht]at hx;injection hx with hx;subst hx;rw[ht,getD_put,if_pos ⟨rfl,by rw[hI.size];exact hr.dstlt i o ev ho he t ht⟩]
  ·rw[sD_add_ne ho ht]at hx;have h1:=hI.tm t x hx;rw[←SV.val_congr hμ (hI.nT t x hx),←h1];cases hd:o.dst with
   | none=>rfl
   | some d=>
    rw[getD_put,if_neg];intro h2;exact ht (by rw[hd,h2.1])
 ·
  intro b T cs hb;rcases aA b with hx | ⟨T',cs',hx⟩
  ·rw[hD_add_ne he hx]at hb;exact aG b T cs hb hx
  ·rw[hD_add_eq hr hI ho he hi hx]at hb;cases hb;exact (aC b _ _ hx).1
 ·
  have aI:∀b,(hD ops evs s0 D b).isSome=true→μ b<w.heap.size:=by intro b hb;obtain⟨x,hx⟩:=Option.isSome_iff_exists.1 hb;exact (hI.bl b x.1 x.2 hx).lt
  have aD:∀b,(hD ops evs s0 (addD D i) b).isSome=true→((hD ops evs s0 D b).isSome=true∧μ' b=μ b)∨(b=s0.h.length+i∧μ' b=w.heap.size):=by
   intro b hb;rcases aA b with hx | ⟨T',cs',hx⟩
   ·rw[hD_add_ne he hx]at hb;have aH:=hI.nmD b hb;exact .inl ⟨hb,(hμ b (by simp only[Bool.or_eq_true,decide_eq_true_eq];exact aH)).symm⟩
   ·rcases (aC b _ _ hx).2 with h | ⟨h,T0,cs0,h2⟩
    ·exact .inr h
    ·exact .inl ⟨by rw[h2];rfl,by rw[h]⟩
  intro b b' hb aT aV;rcases aD b hb with ⟨h1,h2⟩ | ⟨h1,h2⟩<;>rcases aD b' aT with ⟨h3,h4⟩ | ⟨h3,h4⟩
  ·exact hI.inj b b' h1 h3 (by omega)
  ·have:=aI b h1;omega
  ·have:=aI b' h3;omega
  ·omega
 ·
  intro t x hx;by_cases ht:o.dst=some t
  ·rw[sD_add_eq hr hI ho he hi ht]at hx;injection hx with hx;subst hx;exact SV.okn_mono (fun b hb=>nameB_D hb aM) aK
  ·rw[sD_add_ne ho ht]at hx;exact SV.okn_mono (fun b hb=>addD_of hb) (hI.nT t x hx)
 ·
  intro b T cs hb;rcases aA b with hx | ⟨T',cs',hx⟩
  ·rw[hD_add_ne he hx]at hb;exact okn_mono (fun b hb=>addD_of hb) (hI.nB b T cs hb)
  ·rw[hD_add_eq hr hI ho he hi hx]at hb;cases hb;rw[hx]at aF;exact okn_mono (fun b hb=>nameB_D hb aM) aF
 ·
  rcases aB with h | ⟨b,T,cs,hx,hrb,⟨T0,cs0,hbk⟩,h3,h4⟩
  ·exact hI.kp.trans_below ⟨h.os,h.tape,h.output,h.size,fun k hk=>h.block k hk (by simp)⟩
  ·have h5:=readB hr hwb hI ho he hi hp hrb;have hs:(hD ops evs s0 D b).isSome=true:=by rw[h5,hbk];rfl
   refine hI.kp.trans_grown h4 ?_;rcases Nat.lt_or_ge b s0.h.length with h6 | h6
   ·exact .inr ⟨b,hI.ini b hs h6,(hI.old b h6).symm⟩
   ·exact .inl (hI.new b hs h6)
 ·
  intro b hb;rw[←hμ b (by simp[hb])];exact hI.old b hb
 ·
  intro b hb aP;rcases aA b with hx | ⟨T',cs',hx⟩
  ·rw[hD_add_ne he hx]at hb;have aH:=hI.nmD b hb;rw[←hμ b (by simp only[Bool.or_eq_true,decide_eq_true_eq];exact aH)];exact hI.new b hb aP
  ·rcases (aC b _ _ hx).2 with ⟨h1,h2⟩ | ⟨h,T0,cs0,h2⟩
   ·rw[h2];exact hI.kp.size
   ·rw[h];exact hI.new b (by rw[h2];rfl) aP
 ·
  intro b hb aQ;rcases aA b with hx | ⟨T',cs',hx⟩
  ·rw[hD_add_ne he hx]at hb;exact hI.ini b hb aQ
  ·rcases (aC b _ _ hx).2 with ⟨h1,h2⟩ | ⟨h,T0,cs0,h2⟩
   ·omega
   ·exact hI.ini b (by rw[h2];rfl) aQ
 ·
  intro b hb;rcases aA b with hx | ⟨T',cs',hx⟩
  ·rw[hD_add_ne he hx]at hb;rcases hI.nmD b hb with h | h
   ·exact .inl h
   ·exact .inr (by simp[addD,h])
  ·rcases (aC b _ _ hx).2 with ⟨h1,h2⟩ | ⟨h,T0,cs0,h2⟩
   ·exact .inr (by simp[addD,h1])
   ·rcases hI.nmD b (by rw[h2];rfl) with h | h
    ·exact .inl h
    ·exact .inr (by simp[addD,h])
theorem rinv_step {Q:Exit→Act→World→Prop} (hr:RegOk ops s0 evs) (hrun:∀(i:Nat) (o:Oper) (ev:SEv),ops[i]?=some o→evs[i]?=some ev→∃m,absG P g ρ ops (stAt ops evs s0 i).h.length m (stAt ops evs s0 i) o=some ev)
 (hwb:∀(i:Nat) (o:Oper) (ev:SEv),ops[i]?=some o→evs[i]?=some ev→wbOk (stAt ops evs s0 i) ev) (hq:∀ev∈evs,∀q,ev.rq=some q→q.Ok P ρ)
 (hI:RInv P ops evs s0 ρ μ0 w0 D μ a w) (ho:ops[i]?=some o) (hi:D i=false) (hp:∀e∈o.after,Region.binds .any e=true→D e.on=true) :
 wpOp P ops.toArray Q i (fun a' w'=>∃μ',RInv P ops evs s0 ρ μ0 w0 (addD D i) μ' a' w') a w:=by
 have aC:=(List.getElem?_eq_some_iff.1 ho).1;have he:evs[i]?=some (evs[i]'(by rw[←hr.len];exact aC)):=List.getElem?_eq_getElem _;generalize hev:evs[i]'(by rw[←hr.len];exact aC)=ev at he;have aB:=(len_stAt (s0:=s0) hr.len i (by omega)).1;obtain⟨m,hm⟩:=hrun i o ev ho he;unfold absG at hm;unfold wpOp;simp only[List.getElem?_toArray,ho];cases hwt:wantB ρ ops (stAt ops evs s0 i) o with
 | none=>rw[hwt]at hm;cases hm
 | some bw=>
  rw[wanted_at hr hI ho he hi hp hwt];rw[hwt]at hm;cases bw with
  | false=>
   simp only[Bool.false_eq_true,if_false]at hm ⊢;injection hm with hm;have h1:ev.val=.v false [.c undef]:=by rw[←hm]
   have h2:=rinv_upd hr hwb hI ho he hi hp (μ':=μ) (w':=w) (by unfold EffOk;rw[←hm];exact ⟨rfl,Below.refl _ _⟩);rw[h1]at h2;exact ⟨μ,h2⟩
  | true=>
   simp only[if_true]at hm ⊢;refine .inl ?_;cases hab:absOp P g ρ (stAt ops evs s0 i).h.length m (stAt ops evs s0 i) o with
   | none=>rw[hab]at hm;cases hm
   | some ev'=>
    rw[hab]at hm;simp only at hm;split at hm
    ·injection hm with hm;subst hm;refine absOp_sound hab (fun x hx s hs=>?_) (fun x hx s hs=>?_) (fun b hb T cs hbk=>?_) (fun q hqe=>hq ev' (List.mem_of_getElem? he) q hqe) fun μ' w' hE=>⟨μ',rinv_upd hr hwb hI ho he hi hp hE⟩
     ·cases x with
      | tmp t=>
       have ht:t∈rdOf ops o:=by unfold rdOf Oper.looksAt;exact List.mem_append_left _ (List.mem_filterMap.2 ⟨.tmp t,hx,rfl⟩)
       exact hI.tm t s ((readT hr hI ho he hi hp ht).trans hs)
      | const v=>exact (constV_val hs).symm
      | global _=>cases hs
      | func _=>cases hs
     ·cases x with
      | tmp t=>
       have ht:t∈rdOf ops o:=by unfold rdOf Oper.looksAt;exact List.mem_append_left _ (List.mem_filterMap.2 ⟨.tmp t,hx,rfl⟩)
       have h3:=hI.nT t s ((readT hr hI ho he hi hp ht).trans hs);refine SV.okn_mono (fun b hb=>?_) h3;rw[aB];simp only[bne_iff_ne,ne_eq];intro e;subst e;rw[Nat.add_sub_cancel_left,hi]at hb;simp only[Bool.or_false,decide_eq_true_eq]at hb;omega
      | const v=>
       have aA:constV v=some s:=hs;unfold constV at aA;split at aA
       ·split at aA
        ·cases aA;simp[SV.okn,Sg.okn]
        ·cases aA
       ·cases aA
       ·cases aA;rfl
      | global _=>cases hs
      | func _=>cases hs
     ·exact hI.bl b T cs ((readB hr hwb hI ho he hi hp hb).trans hbk)
    ·cases hm
theorem absG_wb {m:Nat} {s:St} {o:Oper} {ev:SEv} (h:absG P g ρ ops s.h.length m s o=some ev):wbOk s ev:=by
 unfold absG at h;split at h
 ·split at h
  ·split at h
   ·rename_i hc
    cases h;intro x hx;unfold chkW at hc;rw[hx]at hc;simp only[Bool.or_eq_true,beq_iff_eq]at hc;rcases hc with hc | hc
    ·exact .inl hc
    ·exact .inr ⟨blk_lt hc,hc⟩
   ·cases h
  ·cases h
 ·cases h;intro x hx;cases hx
 ·cases h
def doneD (listed:Array Bool):Nat→Bool:=fun i=>listed.getD i false
theorem doneD_set {listed:Array Bool} {i:Nat} (h:i<listed.size):doneD (listed.setIfInBounds i true)=addD (doneD listed) i:=by
 funext j;unfold doneD addD;by_cases hj:j=i
 ·subst hj;simp[h]
 ·rw[getD_set_ne false (fun e=>hj e.symm)];simp[hj]
theorem nodup_le2:∀(L L':List Nat),L.Nodup→(∀i∈L,i∈L')→L.length≤L'.length
 | [],_,_,_=>Nat.zero_le _
 | x::L,L',h,hs=>by
  simp only[List.nodup_cons]at h;have h1:=nodup_le2 L (L'.erase x) h.2 fun i hi=>(List.mem_erase_of_ne (fun e=>h.1 (by rw[←e];exact hi))).2 (hs i (by simp[hi]));have h2:=hs x (by simp);rw[List.length_erase_of_mem h2]at h1;have h3:=List.length_pos_of_mem h2;simp only[List.length_cons];omega
theorem full_of {n:Nat} {L:List Nat} (h:L.Nodup) (hl:∀i∈L,i<n) (hn:L.length=n):∀i,i<n→i∈L:=by
 intro i hi;apply Classical.byContradiction;intro aA;have:=nodup_le2 (i::L) (List.range n) (by simp[aA,h]) (fun j hj=>by
  rcases List.mem_cons.1 hj with rfl | hj
  ·exact List.mem_range.2 hi
  ·exact List.mem_range.2 (hl j hj))
 simp at this;omega
theorem rinv_any {Q:Exit→Act→World→Prop} (hr:RegOk ops s0 evs) (hrun:∀(i:Nat) (o:Oper) (ev:SEv),ops[i]?=some o→evs[i]?=some ev→∃m,absG P g ρ ops (stAt ops evs s0 i).h.length m (stAt ops evs s0 i) o=some ev)
 (hwb:∀(i:Nat) (o:Oper) (ev:SEv),ops[i]?=some o→evs[i]?=some ev→wbOk (stAt ops evs s0 i) ev) (hq:∀ev∈evs,∀q,ev.rq=some q→q.Ok P ρ)
 (hQ:∀D μ a w,(∀i,D i=true↔i<ops.length)→RInv P ops evs s0 ρ μ0 w0 D μ a w→Q .normal a w) :
 ∀(fuel:Nat) (listed:Array Bool) (L:List Nat) (μ:Nat→Nat) (a:Act) (w:World),listed.size=ops.length→L.Nodup→L.length+fuel=ops.length→(∀i,i∈L↔doneD listed i=true)→
  RInv P ops evs s0 ρ μ0 w0 (doneD listed) μ a w→wpAny P .any ops.toArray Q fuel listed a w:=by
 have aC:∀(listed:Array Bool) (i:Nat),doneD listed i=true→i<listed.size:=by
  intro listed i h;unfold doneD at h;rcases Nat.lt_or_ge i listed.size with h1 | h1
  ·exact h1
  ·simp[Array.getElem?_eq_none h1]at h
 have aD:∀(listed:Array Bool) (μ:Nat→Nat) (a:Act) (w:World),listed.size=ops.length→Region.ready .any ops.toArray listed=[]→RInv P ops evs s0 ρ μ0 w0 (doneD listed) μ a w→Q .normal a w:=
  fun listed μ a w hs h hI=>hQ _ μ a w (fun i=>⟨fun h'=>by rw[←hs];exact aC _ _ h',Qt hr.inn hs h i⟩) hI
 intro fuel;induction fuel with
 | zero=>
  intro listed L μ a w hs hn hl hL hI;have aA:∀i,i<ops.length→doneD listed i=true:=fun i hi=>(hL i).1 (full_of hn (fun j hj=>by rw[←hs];exact aC _ _ ((hL j).1 hj)) (by omega) i hi);refine ⟨?_,hQ _ μ a w (fun i=>⟨fun h'=>by rw[←hs];exact aC _ _ h',aA i⟩) hI⟩;cases hrd:Region.ready .any ops.toArray listed with
  | nil=>rfl
  | cons x xs=>
   obtain⟨h1,o,h2,_⟩:=mem_ready.1 (show x∈Region.ready .any ops.toArray listed by rw[hrd];simp);have h3:x<ops.length:=by simpa using (Array.getElem?_eq_some_iff.1 h2).1
   have h4:=aA x h3;unfold doneD at h4;have h5:x<listed.size:=by omega
   simp[h5]at h1 h4;rw[h1]at h4;cases h4
 | succ fuel ih=>
  intro listed L μ a w hs hn hl hL hI;refine ⟨fun h=>aD listed μ a w hs h hI,fun i hi=>?_⟩;obtain⟨h1,o,h2,h3⟩:=mem_ready.1 hi;have ho:ops[i]?=some o:=by simpa using h2
  have aF:=(List.getElem?_eq_some_iff.1 ho).1;have aE:doneD listed i=false:=by
   unfold doneD;have h5:i<listed.size:=by omega
   simp[h5]at h1 ⊢;exact h1
  refine wpOp_mono (fun a' w' hh=>?_) (rinv_step hr hrun hwb hq hI ho aE h3);obtain⟨μ',h⟩:=hh;have aB:=doneD_set (listed:=listed) (i:=i) (by omega);refine ih (listed.setIfInBounds i true) (i::L) μ' a' w' (by simpa using hs) ?_ (by simp;omega) ?_ (by rw[aB];exact h)
  ·simp only[List.nodup_cons];exact ⟨fun h=>(by rw[(hL i).1 h]at aE;cases aE),hn⟩
  ·intro j;rw[aB];simp[addD,hL j]
end
section
structure Goes (s : St) (μ : Nat → Nat) (w : World) (s' : St) (μ' : Nat → Nat) (w' : World) : Prop where
 kp:Kpt s μ w w'
 len:s.h.length≤s'.h.length
 old:∀b,b<s.h.length→μ' b=μ b
 new:∀b,(s'.blk b).isSome=true→s.h.length≤b→w.heap.size≤μ' b
 ini:∀b,(s'.blk b).isSome=true→b<s.h.length→(s.blk b).isSome=true
theorem Goes.refl (s:St) (μ:Nat→Nat) (w:World):Goes s μ w s μ w:=
 ⟨⟨rfl,rfl,rfl,Nat.le_refl _,fun _ _ _=>rfl⟩,Nat.le_refl _,fun _ _=>rfl,fun b h1 h2=>absurd (blk_lt h1) (by omega),fun b h _=>h⟩
theorem Goes.trans {s s1 s2:St} {μ μ1 μ2:Nat→Nat} {w w1 w2:World} (h:Goes s μ w s1 μ1 w1) (h':Goes s1 μ1 w1 s2 μ2 w2):Goes s μ w s2 μ2 w2:=by
 refine ⟨⟨h'.kp.os.trans h.kp.os,h'.kp.tape.trans h.kp.tape,h'.kp.output.trans h.kp.output,Nat.le_trans h.kp.size h'.kp.size,fun k hk hn=>?_⟩,Nat.le_trans h.len h'.len,fun b hb=>(h'.old b (Nat.lt_of_lt_of_le hb h.len)).trans (h.old b hb),fun b hb hge=>?_,fun b hb hlt=>?_⟩
 ·refine (h'.kp.block k (Nat.lt_of_lt_of_le hk h.kp.size) fun b hb e=>?_).trans (h.kp.block k hk hn);rcases Nat.lt_or_ge b s.h.length with h1 | h1
  ·exact hn b (h.ini b hb h1) (by rw[←h.old b h1];exact e)
  ·have:=h.new b hb h1;omega
 ·rcases Nat.lt_or_ge b s1.h.length with h1 | h1
  ·rw[h'.old b h1];exact h.new b (h'.ini b hb h1) hge
  ·exact Nat.le_trans h.kp.size (h'.new b hb h1)
 ·exact h.ini b (h'.ini b hb (Nat.lt_of_lt_of_le hlt h.len)) hlt
section
variable {P : Program} {g : TypeId → Option (List Nat)} {ρ : List Av}
theorem lastW_none {α:Type} {wr:Nat→Option α}:∀ {n:Nat} {x:α},lastW wr (fun _=>false) n x=x
 | 0,_=>rfl
 | n+1,x=>by unfold lastW;rw[if_neg (by simp)];exact lastW_none
theorem wpAny_text {ops:List Oper} {Q:Exit→Act→World→Prop} (hin:inOrder ops=true):∀(fuel k:Nat) (listed:Array Bool) (a:Act) (w:World),k+fuel=ops.length→listed.size=ops.length→(∀j,listed.getD j false=true↔j<k)→
 wpAny P .any ops.toArray Q fuel listed a w→wpOps P ops.toArray Q (List.range' k fuel) a w
 | 0,k,listed,a,w,hk,hs,hl,h=>h.2
 | fuel+1,k,listed,a,w,hk,hs,hl,h=>by
  rw[List.range'_succ,wpOps_cons];have hkl:k<ops.length:=by omega
  have aA:k∈Region.ready .any ops.toArray listed:=by
   refine mem_ready.2 ⟨?_,ops[k],by simp[hkl],fun e he hb=>(hl e.on).2 (Ij hin (List.getElem?_eq_getElem hkl) e he hb)⟩;have h1:listed.getD k false=false:=by
    cases h2:listed.getD k false with
    | false=>rfl
    | true=>have:=(hl k).1 h2;omega
   have h3:k<listed.size:=by omega
   simp[h3]at h1 ⊢;exact h1
  refine wpOp_mono (fun a' w' h'=>?_) (h.2 k aA);refine wpAny_text hin fuel (k+1) _ a' w' (by omega) (by simpa using hs) (fun j=>?_) h';by_cases hj:j=k
  ·subst hj;have h3:j<listed.size:=by omega
   simp[h3]
  ·rw[getD_set_ne false (fun e=>hj e.symm),hl j];omega
theorem sx_region {ops:List Oper} {evs:List SEv} {s s':St} {na na' id:Nat} {draw:Bool} {μ:Nat→Nat} {a:Act} {w:World} {Q:Exit→Act→World→Prop} (hm:P.follows .mixedOrders=true) (hrun:runR P g ρ ops ops s na=some (evs,s',na')) (hreg:regB ops s evs=true)
 (hq:∀ev∈evs,∀q,ev.rq=some q→q.Ok P ρ) (hR:Rel ρ s μ a w) (hQ:∀μ' a' w',Rel ρ s' μ' a' w'→Goes s μ w s' μ' w'→Q .normal a' w'):(Code.region id ops.toArray draw).wp P Q a w:=by
 have hr:=regB_ok hreg;obtain⟨_,aE,aK⟩:=runR_at (ops:=ops) (evs:=evs) (s0:=s) (k:=0) (fun j=>by simp) (fun j=>by simp) hrun rfl;have aB:∀(i:Nat) (o:Oper) (ev:SEv),ops[i]?=some o→evs[i]?=some ev→∃m,absG P g ρ ops (stAt ops evs s i).h.length m (stAt ops evs s i) o=some ev:=by intro i o ev ho he;have h1:=aK i o ev (by simpa using ho) (by simpa using he) (List.getElem?_eq_some_iff.1 ho).1;simpa using h1
 have aG:∀(i:Nat) (o:Oper) (ev:SEv),ops[i]?=some o→evs[i]?=some ev→wbOk (stAt ops evs s i) ev:=by intro i o ev ho he;obtain⟨m,hm⟩:=aB i o ev ho he;exact absG_wb hm
 have aF:stAt ops evs s ops.length=s':=by simpa using aE
 have aH:∀t,sD ops evs s (fun _=>false) t=s.σ[t]?:=fun t=>lastW_none;have aC:∀b,hD ops evs s (fun _=>false) b=s.blk b:=fun b=>lastW_none;have any:∀w1:World,Rel ρ s μ a w1→Kpt s μ w w1→w1.heap.size=w.heap.size→wpAny P .any ops.toArray Q ops.length (Array.replicate ops.length false) a w1:=by
  intro w1 aD aL aM;have aI:doneD (Array.replicate ops.length false)=fun _=>false:=by
   funext j;unfold doneD;rcases Nat.lt_or_ge j ops.length with h | h
   ·simp[h]
   ·simp[Array.getElem?_eq_none (xs:=Array.replicate ops.length false) (i:=j) (by simpa using h)]
  refine rinv_any (μ0:=μ) (w0:=w) hr aB aG hq (fun D μ' a' w' hDD hI=>?_) ops.length _ [] μ a w1 (by simp) (by simp) (by simp) (fun i=>by rw[aI];simp) ?_
  ·have hT:∀t,sD ops evs s D t=s'.σ[t]?:=by intro t;rw[←aF,stAt_σ hr.len hr.dstlt ops.length (Nat.le_refl _)];exact lastW_congr fun j hj hne=>absurd ((hDD j).2 hj) hne
   have hB:∀b,hD ops evs s D b=s'.blk b:=by intro b;rw[←aF,stAt_blk hr.len aG ops.length (Nat.le_refl _)];exact lastW_congr fun j hj hne=>absurd ((hDD j).2 hj) hne
   have aA:=len_stAt (s0:=s) hr.len ops.length (Nat.le_refl _);rw[aF]at aA;have aJ:∀b,(decide (b<s.h.length)||D (b-s.h.length))=true→decide (b<s'.h.length)=true:=by
    intro b hb;simp only[Bool.or_eq_true,decide_eq_true_eq]at hb ⊢;rw[aA.1];rcases hb with hb | hb
    ·omega
    ·have:=(hDD _).1 hb;omega
   refine hQ μ' a' w' ⟨by rw[hI.size,aA.2],hI.df,fun t x hx=>hI.tm t x ((hT t).trans hx),fun b T cs hb=>hI.bl b T cs ((hB b).trans hb),fun b b' hb hb'=>hI.inj b b' (by rw[hB];exact hb) (by rw[hB];exact hb'),
    fun t x hx=>SV.okn_mono aJ (hI.nT t x ((hT t).trans hx)),fun b T cs hb=>okn_mono aJ (hI.nB b T cs ((hB b).trans hb))⟩
    ⟨hI.kp,by rw[aA.1];omega,hI.old,fun b hb=>hI.new b (by rw[hB];exact hb),fun b hb=>hI.ini b (by rw[hB];exact hb)⟩
  ·rw[aI];refine ⟨fun i o _ h=>(by cases h),aD.size,aD.df,fun t x hx=>aD.tm t x ((aH t).symm.trans hx),fun b T cs hb=>aD.bl b T cs ((aC b).symm.trans hb),fun b b' hb hb'=>aD.inj b b' (by rw[←aC];exact hb) (by rw[←aC];exact hb'),
    fun t x hx=>SV.okn_mono (fun b hb=>by simpa using hb) (aD.nT t x ((aH t).symm.trans hx)),fun b T cs hb=>okn_mono (fun b hb=>by simpa using hb) (aD.nB b T cs ((aC b).symm.trans hb)),aL,fun _ _=>rfl,fun b hb hge=>?_,fun b hb _=>by rw[←aC];exact hb,fun b hb=>?_⟩
   ·have:=blk_lt (s:=s) (b:=b) (by rw[←aC];exact hb);omega
   ·exact .inl (blk_lt (s:=s) (b:=b) (by rw[←aC];exact hb))
 cases draw with
 | true=>
  refine wp_region_any hm ?_;have h1:=any w.drew ⟨hR.size,hR.df,hR.tm,fun b T cs hb=>(hR.bl b T cs hb).drew,hR.inj,hR.nT,hR.nB⟩ ⟨rfl,rfl,rfl,Nat.le_refl _,fun _ _ _=>rfl⟩ rfl;have h2:ops.toArray.size=ops.length:=by simp
  rw[h2];exact h1
 | false=>
  refine wp_region ?_;have h1:=any w hR ⟨rfl,rfl,rfl,Nat.le_refl _,fun _ _ _=>rfl⟩ rfl;have h2:=wpAny_text hr.inn ops.length 0 _ a w (by omega) (by simp) (fun j=>by
   rcases Nat.lt_or_ge j ops.length with h | h
   ·simp[h]
   ·simp[Array.getElem?_eq_none (xs:=Array.replicate ops.length false) (i:=j) (by simpa using h)]) h1
  rw[List.range_eq_range'];simpa using h2
end
end
end Go.Proofs.YtlegpkdighoflaaGreat
