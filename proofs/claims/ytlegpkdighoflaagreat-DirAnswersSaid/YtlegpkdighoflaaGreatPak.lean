/- A part of the proof of DirAnswers. -/
import Derived.Test.YtlegpkdighoflaaGreatPaj
set_option linter.unusedVariables false
set_option linter.unusedSimpArgs false
set_option maxRecDepth 100000
set_option maxHeartbeats 40000000
namespace Go.Proofs.YtlegpkdighoflaaGreat
open Go Go.RowKit Sh
section
def Ue (P:Program) (md:Region.Mode) (ops:Array Oper) (Q:Exit→Act→World→Prop) (s:Nat) (C:World→Prop):Nat→Array Bool→Act→World→Prop
 | 0,listed,a,w=>Region.ready md ops listed=[]∧Q .normal a w
 | fuel+1,listed,a,w=>
  (Region.ready md ops listed=[]→Q .normal a w)∧
  ∀i∈Region.ready md ops listed,wpOp P ops Q i (fun a' w'=>((listed.setIfInBounds i true).getD s true=false→C w')∧Ue P md ops Q s C fuel (listed.setIfInBounds i true) a' w') a w
theorem Xs {P:Program} {md:Region.Mode} {ops:Array Oper} {Q:Exit→Act→World→Prop} {s:Nat} {C:World→Prop}:∀(fuel:Nat) (listed:Array Bool) (a:Act) (w:World),Ue P md ops Q s C fuel listed a w→wpAny P md ops Q fuel listed a w
 | 0,_,_,_,h=>h
 | fuel+1,_,_,_,h=>⟨h.1,fun i hi=>wpOp_mono (fun a' w' h'=>Xs fuel _ a' w' h'.2) (h.2 i hi)⟩
def Wi (md:Region.Mode) (ops:Array Oper) (s i:Nat):Prop:=∀os,ops[s]?=some os→∃e∈os.after,Region.binds md e=true∧e.on=i
theorem A2r {P:Program} {md:Region.Mode} {ops:Array Oper} {i s:Nat} {C S:World→Prop} {oi:Oper} {v:Value} {Q:Exit→Act→World→Prop} (hi:ops[i]?=some oi) (hsel:∀(j:Nat) (o:Oper) cs b,ops[j]?=some o→o.op≠.select cs b) (hQ:∀c a a' w,Q (.panic c) a w→Q (.panic c) a' w) (his:i≠s) :
 ∀(fuel:Nat) (listed:Array Bool) (a:Act) (w:World),
  (∀j oj,ops[j]?=some oj→j≠i→listed.getD j true=false→(∀e∈oj.after,Region.binds md e=true→e.on≠i)→oi.apart ops oj=true)→
  i∈Region.ready md ops listed→Gf P ops S oi v a→S w→(listed.getD s true=false→C w)→
  ((∀w,S w)∨((∀w,C w→S w)∧listed.getD s true=false∧Wi md ops s i))→
  Ue P md ops Q s C fuel (listed.setIfInBounds i true) (a.put oi.dst v) w→Ue P md ops Q s C (fuel+1) listed a w
 | fuel,listed,a,w,hfree,hr,hy,hS,hK,hC,H=>by
  refine ⟨fun h=>(by rw[h]at hr;cases hr),fun j hj=>?_⟩;by_cases hji:j=i
  ·subst hji;exact hy.op hi hS ⟨fun h=>hK (by rwa [getD_set_ne true his]at h),H⟩
  ·cases fuel with
   | zero=>have:=ready_mono hj hji;rw[H.1]at this;cases this
   | succ fuel=>
    obtain⟨aA,oj,aC,aD⟩:=mem_ready.1 hj;have aG:=(mem_ready.1 hr).1;have aB:∀e∈oj.after,Region.binds md e=true→e.on≠i:=fun e he hb heq=>by
     have h1:=aD e he hb;rw[heq,getD_both aG]at h1;cases h1
    have aH:(listed.getD s true=false∧Wi md ops s i)→j≠s:=fun h e=>by
     subst e;obtain⟨e,he,hb,ho⟩:=h.2 oj aC;exact aB e he hb ho
    have aE:∀w',(((listed.setIfInBounds i true).setIfInBounds j true).getD s true=false→C w')→((listed.setIfInBounds j true).getD s true=false→C w'):=fun w' h1 h2=>h1 (by
     rw[←Array.setIfInBounds_comm _ _ hji,getD_set_ne true his];exact h2)
    have aF:(∀w,S w)∨((∀w,C w→S w)∧(listed.setIfInBounds j true).getD s true=false∧Wi md ops s i):=by
     rcases hC with h | ⟨h1,h2,h3⟩
     ·exact .inl h
     ·exact .inr ⟨h1,by rw[getD_set_ne true (aH ⟨h2,h3⟩)];exact h2,h3⟩
    have aI:∀w',((listed.setIfInBounds j true).getD s true=false→C w')→S w':=fun w' h=>by
     rcases aF with h1 | ⟨h1,h2,_⟩
     ·exact h1 w'
     ·exact h1 w' (h h2)
    refine wpOp_mono (fun a' w' h3=>⟨aE w' h3.2.1,A2r hi hsel hQ his fuel (listed.setIfInBounds j true) a' w' (fun k ok hk hki hkun hno=>?_) (ready_mono hr (Ne.symm hji)) h3.1 (aI w' (aE w' h3.2.1)) (aE w' h3.2.1) aF ?_⟩) (Xw aC (hfree j oj aC hji aA aB) (fun cs b=>hsel i oi cs b hi) (fun cs b=>hsel j oj cs b aC) hQ hy (H.2 j (ready_mono hj hji)))
    ·refine hfree k ok hk hki ?_ hno;by_cases hjk:j=k
     ·subst hjk;exact aA
     ·rw[getD_set_ne true hjk]at hkun;exact hkun
    ·rw[Array.setIfInBounds_comm _ _ hji];exact h3.2.2
section
variable {P : Program} {md : Region.Mode} {l : List Oper} {Q : Exit → Act → World → Prop} {s : Nat} {C S : World → Prop} {a : Act} {w : World}
theorem Td:∀(qs:List Nat) (lq:List Oper) (fuel:Nat) (listed:Array Bool) (a:Act) (w:World),Dh l qs=lq→lq.length=qs.length→Region.noSelect l.toArray=true→(Ga md l.toArray listed qs).2=true→S w→(listed.getD s true=false→C w)→
 (∀i∈qs,i≠s)→((∀w,S w)∨((∀w,C w→S w)∧listed.getD s true=false∧∀i∈qs,Wi md l.toArray s i))→(∀c a a' w,Q (.panic c) a w→Q (.panic c) a' w)→
 Xj P l.toArray S (fun a'=>Ue P md l.toArray Q s C fuel (Ga md l.toArray listed qs).1 a' w) lq a→Ue P md l.toArray Q s C (fuel+qs.length) listed a w
 | [],lq,fuel,listed,a,w,hp,_,_,hB,hS,_,_,_,_,h=>by subst hp;exact h
 | i::is,lq,fuel,listed,a,w,hp,hl,hs,hB,hS,hK,hne,hC,hQ,h=>by
  simp only[Ga,Bool.and_eq_true]at hB;obtain⟨⟨hr,hf⟩,hB⟩:=hB;simp only[Dh]at hp;cases hi:l[i]? with
  | none=>rw[hi]at hp;subst hp;simp at hl
  | some o=>
   rw[hi]at hp;subst hp;obtain⟨v,hy,h⟩:=h;have aB:l.toArray[i]?=some o:=by simpa using hi
   have aA:i≠s:=hne i (by simp);refine A2r aB (Region.noSelect_spec hs) hQ aA _ _ _ _ (Region.free_spec aB hf) (by simpa using hr) hy hS hK ?_ (Td is _ fuel _ _ w rfl (by simpa using hl) hs hB hS (fun h=>hK (by rwa [getD_set_ne true aA]at h)) (fun k hk=>hne k (by simp[hk])) ?_ hQ h)
   ·rcases hC with h | ⟨h1,h2,h3⟩
    ·exact .inl h
    ·exact .inr ⟨h1,h2,h3 i (by simp)⟩
   ·rcases hC with h | ⟨h1,h2,h3⟩
    ·exact .inl h
    ·exact .inr ⟨h1,by rw[getD_set_ne true aA];exact h2,fun k hk=>h3 k (by simp[hk])⟩
def Ia (P:Program) (l:List Oper) (Q:Exit→Act→World→Prop) (s:Nat) (C:World→Prop) (done:List Nat) (a:Act) (w:World):Prop:=
 Ue P .any l.toArray (Zg Q) s C (l.length-done.length) (T9 l.length done) a w
theorem A2l (s:Nat) (C:World→Prop) {id:Nat} (hm:P.follows .mixedOrders=true) (h:Ia P l Q s C [] a w.drew):(Code.region id l.toArray true).wp P Q a w:=by
 refine Code.wp_mono A1j (wp_region_any hm (Xs (s:=s) (C:=C) _ _ _ _ ?_));have e:l.toArray.size=l.length:=by simp
 rw[e];exact h
theorem A4h {done:List Nat} (qs:List Nat) {lq:List Oper} (hs:Region.noSelect l.toArray=true) (h1:(Ga .any l.toArray (T9 l.length done) qs).2=true)
 (hq:Dh l qs=lq) (hn:(lq.length==qs.length&&decide (done.length+qs.length≤l.length))=true) (hd:Hg a.tmps.size lq=true) (hS:S w) (hK:(T9 l.length done).getD s true=false→C w)
 (hne:∀i∈qs,i≠s) (hC:(∀w,S w)∨((∀w,C w→S w)∧(T9 l.length done).getD s true=false∧∀i∈qs,Wi .any l.toArray s i))
 (A:Act) (h:∀W,S W→wpQuiet P l.toArray (fun w'=>w'=W) (fun a'=>a'=A) lq a) (hr:Ia P l Q s C (done++qs) A w):Ia P l Q s C done a w:=by
 simp only[Bool.and_eq_true,beq_iff_eq,decide_eq_true_eq]at hn;unfold Ia at *;rw[show l.length-done.length=(l.length-(done++qs).length)+qs.length by simp;omega];refine Td qs lq _ _ a w hq hn.1 hs h1 hS hK hne hC (fun _ _ _ _ h=>h) (Mu (fun a' ha=>?_) lq a (Hi w hS lq a hd h));subst ha;rw[Pz];unfold T9 at hr ⊢;rw[List.foldl_append]at hr;exact hr
def A7j (l:List Oper) (s i:Nat):Bool:=match l[s]? with | some os=>os.after.any (fun e=>Region.binds .any e&&e.on==i)&&i != s | none=>false
theorem A3y {i:Nat} (h:A7j l s i=true):Wi .any l.toArray s i∧i≠s:=by
 unfold A7j at h;cases hl:l[s]? with
 | none=>rw[hl]at h;cases h
 | some os=>
  rw[hl]at h;simp only[Bool.and_eq_true,bne_iff_ne,ne_eq,Array.any_eq_true']at h;refine ⟨fun o ho=>?_,h.2⟩;have:o=os:=by
   have h2:l[s]?=some o:=by simpa using ho
   rw[hl]at h2;injection h2 with h2;exact h2.symm
  subst this;obtain⟨e,he,hb,hx⟩:=h.1;exact ⟨e,he,hb,by simpa using hx⟩
theorem A1l {done:List Nat} (qs:List Nat) {lq:List Oper} (hs:Region.noSelect l.toArray=true) (h1:(Ga .any l.toArray (T9 l.length done) qs).2=true)
 (hq:Dh l qs=lq) (hn:(lq.length==qs.length&&decide (done.length+qs.length≤l.length))=true) (hd:Hg a.tmps.size lq=true)
 (hw:(qs.all (A7j l s)&&((T9 l.length done).getD s true==false))=true) (hS:C w)
 (A:Act) (h:∀W,C W→wpQuiet P l.toArray (fun w'=>w'=W) (fun a'=>a'=A) lq a) (hr:Ia P l Q s C (done++qs) A w):Ia P l Q s C done a w:=by
 simp only[Bool.and_eq_true,List.all_eq_true,beq_iff_eq]at hw;exact A4h (S:=C) qs hs h1 hq hn hd hS (fun _=>hS) (fun i hi=>(A3y (hw.1 i hi)).2) (.inr ⟨fun _ h=>h,hw.2,fun i hi=>(A3y (hw.1 i hi)).1⟩) A h hr
theorem Nt {done:List Nat} (qs:List Nat) {lq:List Oper} (hs:Region.noSelect l.toArray=true) (h1:(Ga .any l.toArray (T9 l.length done) qs).2=true)
 (hq:Dh l qs=lq) (hn:(lq.length==qs.length&&decide (done.length+qs.length≤l.length))=true) (hd:Hg a.tmps.size lq=true)
 (hw:qs.all (fun i=>i != s)=true) (hK:(T9 l.length done).getD s true=false→C w)
 (A:Act) (h:∀W,wpQuiet P l.toArray (fun w'=>w'=W) (fun a'=>a'=A) lq a) (hr:Ia P l Q s C (done++qs) A w):Ia P l Q s C done a w:=
 A4h (S:=fun _=>True) qs hs h1 hq hn hd trivial hK (fun i hi=>by simpa using (List.all_eq_true.1 hw) i hi) (.inl fun _=>trivial) A (fun W _=>h W) hr
theorem A1v {done:List Nat} {o:Oper} (hr:Hn l done [s]=true) (hi:l[s]?=some o) (hg:Region.wanted o (yielded l.toArray a.tmps)=true)
 (h:∀Q':Exit→Act→World→Prop,(∀a' w',Ia P l Q s C (done++[s]) a' w'→Q' .normal a' w')→wpList P #[F0 o] Q' [F0 o] a w):Ia P l Q s C done a w:=by
 simp only[Hn,Bool.and_eq_true,beq_iff_eq,decide_eq_true_eq]at hr;unfold Ia;rw[show l.length-done.length=(l.length-done.length-1)+1 by omega];refine ⟨fun h0=>(by rw[hr.1]at h0;cases h0),fun j hj=>?_⟩;rw[hr.1]at hj;obtain rfl:j=s:=by simpa using hj
 have h1:=h (fun e a' w'=>e=.normal∧Ia P l Q j C (done++[j]) a' w') (fun a' w' h1=>⟨rfl,h1⟩);unfold wpList at h1;rw[if_pos (by simp[Region.wanted,F0])]at h1;unfold wpOp;have aA:l.toArray[j]?=some o:=by simpa using hi
 simp only[aA];rw[if_pos hg];rcases h1 with h1 | ⟨_,a,w,h2,_⟩
 ·refine .inl (Qr (fun a' w' h2=>⟨fun hx=>?_,?_⟩) (fun e a' w' hne h2=>(hne h2.1).elim) (B5o h1))
  ·by_cases hlt:j<(T9 l.length done).size
   ·simp[hlt]at hx
   ·simp[hlt]at hx
  ·have h3:=h2.2;unfold Ia T9 at h3;rw[List.foldl_append]at h3;rw[show l.length-done.length-1=l.length-(done++[j]).length by simp;omega];exact h3
 ·cases h2
theorem A8h {done:List Nat} (hn:(l.length==done.length&&(Region.ready .any l.toArray (T9 l.length done)==[]))=true) (h:Q .normal a w):Ia P l Q s C done a w:=by
 simp only[Bool.and_eq_true,beq_iff_eq]at hn;unfold Ia;rw[show l.length-done.length=0 by omega];exact And.intro hn.2 h
end
end
def B7j (a b:List UInt64):Nat→UInt64
 | 0=>0
 | i+1=>Yz (E9 a i) (E9 b i) (B7j a b i)
def B1a (a b:List UInt64) (j:Nat):UInt64:=Wj (E9 a j) (E9 b j) (B7j a b j)
def D0m (a b:List UInt64):List UInt64:=Et (B1a a b) (E9 a) 4 4
@[simp, go_sem] theorem A9b (a b : List UInt64) : (D0m a b).length = 4 := Qv _ _ _ _
theorem B4v (a b:List UInt64):∀i,(B7j a b i).toNat≤1
 | 0=>by show (0:UInt64).toNat≤1;decide
 | i+1=>B5c _ _ _ (B4v a b i)
def Hc (a b:List UInt64):List UInt64:=Bs (D0m a b)
theorem A8f (a b:List UInt64):(Hc a b).length=4:=Gl (A9b a b)
theorem C2q (a b:List UInt64) (ha:a.length=4) (hb:b.length=4) (w:World):Calls Tryz.prog 108 #[H9 a,H9 b] w fun e w'=>e=.returned (H9 (Hc a b))∧Below w.heap.size w w':=by
 obtain⟨W0,aB⟩:=F9 (((w.alloc (Obj.cells (C9 a).toArray 184)).alloc (Obj.cells (C9 b).toArray 184)).alloc (Obj.cells (C9 (J2 4)).toArray 184));have hL:W0=M9 w [(184,C9 a),(184,C9 b),(184,C9 (J2 4))]:=aB;have B0:=Ki hL;have K0:=Ko hL rfl;have L0:=Ig 1 hL rfl;have R0:=Ig 2 hL rfl;clear hL;go_enter Tryz.func108,Tryz.ntmps108;go_wp2_with fail;rw[←aB];clear aB;rw[←Nz (f:=B1a a b) ha]at K0;go_loopw [7,5] (fun t q wr=>∃i:Nat,i≤4∧t=.int .i64 (i:Int)∧q=.int .u64 (J4 (B7j a b i))∧Bk wr w.heap.size 184 (C9 (Et (B1a a b) (E9 a) 4 i))∧Bk wr (w.heap.size+1) 184 (C9 b)∧Bk wr (w.heap.size+2) 184 (C9 (J2 4))∧Below w.heap.size w wr) (fun t _ _=>4-(intOf t).toNat)
 case atStart=>exact ⟨0,by omega,rfl,rfl,K0,L0,R0,B0⟩
 case round=>
  clear K0 L0 R0 B0;obtain⟨i,hi,rfl,rfl,K,L,R,B⟩:=hrel;by_cases hlt:i<4
  ·have k0:=K.at_ (J6 (l:=Et (B1a a b) (E9 a) 4 i) (i:=i) (by simpa using hlt));rw[He hlt,if_neg (by omega)]at k0;have l0:=L.at_ (J6 (l:=b) (i:=i) (by omega));have f0:=K.frozen i;have aG:=B4v a b i;have K3:=K.set_ i (.int .u64 (J4 (Wj (E9 a i) (E9 b i) (B7j a b i))));rw[Af,Js (f:=B1a a b) (g:=E9 a) (x:=Wj (E9 a i) (E9 b i) (B7j a b i)) hlt rfl]at K3;go_wp2_with fail;refine A2l 16 (fun W=>W.cell? ⟨w.heap.size,i,none⟩=some (.int .u64 (J4 (E9 a i)))∧W.cell? ⟨w.heap.size+1,i,none⟩=some (.int .u64 (J4 (E9 b i)))) (by kernel_rfl) ?_;refine A1l (A:=?A1) [0,1,2,3,4,5,6,7,8] (by kernel_rfl) (by kernel_rfl) rfl (by kernel_rfl) (by kernel_rfl) (by kernel_rfl) ⟨k0,l0⟩ (h:=fun W hW=>?h1) (hr:=?r1);case h1=>obtain⟨m0,m1⟩:=hW;exact Ei
   refine Nt (A:=?A2) [9,10,11,12,13,14,15] (by kernel_rfl) (by kernel_rfl) rfl (by kernel_rfl) (by kernel_rfl) (by kernel_rfl) (fun _=>⟨k0,l0⟩) (h:=fun W=>?h2) (hr:=?r2);case h2=>
    simp only[List.append_eq,AC',Dh,Ul];repeat (go_big_quiet_step (fail))
    refine wpQuiet_nil ?_;rfl
   refine A1v (by kernel_rfl) (by rfl) (by rfl) (fun Q' hQ'=>?_);dsimp only[F0];go_wp2_with fail;refine Nt (A:=?A3) [17] (by kernel_rfl) (by kernel_rfl) rfl (by kernel_rfl) (by kernel_rfl) (by kernel_rfl) (fun h=>absurd h (by decide)) (h:=fun W=>?h3) (hr:=?r3);case h3=>
    simp only[List.append_eq,AC',Dh,Ul];repeat (go_big_quiet_step (fail))
    refine wpQuiet_nil ?_;rfl
   refine A8h (by kernel_rfl) ?_;go_wp2_with fail;go_roundw;case rel=>exact ⟨i+1,by omega,by go_num,rfl,K3,L.far (by show w.heap.size+1≠w.heap.size;omega) _,R.far (by show w.heap.size+2≠w.heap.size;omega) _,(B.trans (Below.refl _ _).drew).setCell (by simp) _⟩
   case measure=>simp[intOf];omega
  ·obtain rfl:i=4:=by omega
   have e5:((4:Nat):Int)=4:=rfl;rw[e5];clear e5;have hK:Bk wr w.heap.size 184 (C9 (D0m a b)):=K;obtain⟨ss,aA⟩:=F9 (D0m a b);have aC:ss.length=4:=by rw[aA];simp
   have aD:Hc a b=Bs ss:=by rw[aA,Hc]
   have HS:=Lib.hid aD;clear aD;rw[←aA]at hK;have rk:=hK.row64 (n:=4) aC;clear K aA;go_wp2_with fail;refine (Qd ss aC wr).mono ?_;rintro e w2 ⟨rfl,b2⟩;have R2:=R.bl b2;have B2:=K9 B b2;have aE:=Gl aC;have aF:=Gy 4 R2 (by simp);go_wp2_with fail;refine bodyPost_ret (E5 rfl _ _ _ _ _ _ rfl (R2.puts (vs:=C9 (Bs ss)) (by simp[aE])) Fw rfl (by simp[Jp,aE])) rfl ⟨by rw[HS.out];rfl,C5 B2 (by show w.heap.size≤w.heap.size+2;omega) _⟩
end Go.Proofs.YtlegpkdighoflaaGreat
