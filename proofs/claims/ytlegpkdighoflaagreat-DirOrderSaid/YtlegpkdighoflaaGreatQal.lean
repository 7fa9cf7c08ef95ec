/- A part of the proof of DirOrder. -/
import Derived.Test.YtlegpkdighoflaaGreatQak
set_option linter.unusedVariables false
set_option linter.unusedSimpArgs false
set_option maxRecDepth 100000
set_option maxHeartbeats 40000000
namespace Go.Proofs.YtlegpkdighoflaaGreat
open Go Go.RowKit Sh
section
def Rg (P:Program) (md:Region.Mode) (ops:Array Oper) (Q:Exit→Act→World→Prop) (s:Nat) (C:World→Prop):Nat→Array Bool→Act→World→Prop
 | 0,listed,a,w=>Region.ready md ops listed=[]∧Q .normal a w
 | fuel+1,listed,a,w=>
  (Region.ready md ops listed=[]→Q .normal a w)∧
  ∀i∈Region.ready md ops listed,wpOp P ops Q i (fun a' w'=>((listed.setIfInBounds i true).getD s true=false→C w')∧Rg P md ops Q s C fuel (listed.setIfInBounds i true) a' w') a w
theorem Uo {P:Program} {md:Region.Mode} {ops:Array Oper} {Q:Exit→Act→World→Prop} {s:Nat} {C:World→Prop}:∀(fuel:Nat) (listed:Array Bool) (a:Act) (w:World),Rg P md ops Q s C fuel listed a w→wpAny P md ops Q fuel listed a w
 | 0,_,_,_,h=>h
 | fuel+1,_,_,_,h=>⟨h.1,fun i hi=>wpOp_mono (fun a' w' h'=>Uo fuel _ a' w' h'.2) (h.2 i hi)⟩
def Tg (md:Region.Mode) (ops:Array Oper) (s i:Nat):Prop:=∀os,ops[s]?=some os→∃e∈os.after,Region.binds md e=true∧e.on=i
theorem Wt {P:Program} {md:Region.Mode} {ops:Array Oper} {i s:Nat} {C S:World→Prop} {oi:Oper} {v:Value} {Q:Exit→Act→World→Prop} (hi:ops[i]?=some oi) (hsel:∀(j:Nat) (o:Oper) cs b,ops[j]?=some o→o.op≠.select cs b) (hQ:∀c a a' w,Q (.panic c) a w→Q (.panic c) a' w) (his:i≠s) :
 ∀(fuel:Nat) (listed:Array Bool) (a:Act) (w:World),
  (∀j oj,ops[j]?=some oj→j≠i→listed.getD j true=false→(∀e∈oj.after,Region.binds md e=true→e.on≠i)→oi.apart ops oj=true)→
  i∈Region.ready md ops listed→El P ops S oi v a→S w→(listed.getD s true=false→C w)→
  ((∀w,S w)∨((∀w,C w→S w)∧listed.getD s true=false∧Tg md ops s i))→
  Rg P md ops Q s C fuel (listed.setIfInBounds i true) (a.put oi.dst v) w→Rg P md ops Q s C (fuel+1) listed a w
 | fuel,listed,a,w,hfree,hr,hy,hS,hK,hC,H=>by
  refine ⟨fun h=>(by rw[h]at hr;cases hr),fun j hj=>?_⟩;by_cases hji:j=i
  ·subst hji;exact hy.op hi hS ⟨fun h=>hK (by rwa [getD_set_ne true his]at h),H⟩
  ·cases fuel with
   | zero=>have:=ready_mono hj hji;rw[H.1]at this;cases this
   | succ fuel=>
    obtain⟨aA,oj,aC,aD⟩:=mem_ready.1 hj;have aG:=(mem_ready.1 hr).1;have aB:∀e∈oj.after,Region.binds md e=true→e.on≠i:=fun e he hb heq=>by
     have h1:=aD e he hb;rw[heq,getD_both aG]at h1;cases h1
    have aH:(listed.getD s true=false∧Tg md ops s i)→j≠s:=fun h e=>by
     subst e;obtain⟨e,he,hb,ho⟩:=h.2 oj aC;exact aB e he hb ho
    have aE:∀w',(((listed.setIfInBounds i true).setIfInBounds j true).getD s true=false→C w')→((listed.setIfInBounds j true).getD s true=false→C w'):=fun w' h1 h2=>h1 (by
     rw[←Array.setIfInBounds_comm _ _ hji,getD_set_ne true his];exact h2)
    have aF:(∀w,S w)∨((∀w,C w→S w)∧(listed.setIfInBounds j true).getD s true=false∧Tg md ops s i):=by
     rcases hC with h | ⟨h1,h2,h3⟩
     ·exact .inl h
     ·exact .inr ⟨h1,by rw[getD_set_ne true (aH ⟨h2,h3⟩)];exact h2,h3⟩
    have aI:∀w',((listed.setIfInBounds j true).getD s true=false→C w')→S w':=fun w' h=>by
     rcases aF with h1 | ⟨h1,h2,_⟩
     ·exact h1 w'
     ·exact h1 w' (h h2)
    refine wpOp_mono (fun a' w' h3=>⟨aE w' h3.2.1,Wt hi hsel hQ his fuel (listed.setIfInBounds j true) a' w' (fun k ok hk hki hkun hno=>?_) (ready_mono hr (Ne.symm hji)) h3.1 (aI w' (aE w' h3.2.1)) (aE w' h3.2.1) aF ?_⟩) (Uj aC (hfree j oj aC hji aA aB) (fun cs b=>hsel i oi cs b hi) (fun cs b=>hsel j oj cs b aC) hQ hy (H.2 j (ready_mono hj hji)))
    ·refine hfree k ok hk hki ?_ hno;by_cases hjk:j=k
     ·subst hjk;exact aA
     ·rw[getD_set_ne true hjk]at hkun;exact hkun
    ·rw[Array.setIfInBounds_comm _ _ hji];exact h3.2.2
section
variable {P : Program} {md : Region.Mode} {l : List Oper} {Q : Exit → Act → World → Prop} {s : Nat} {C S : World → Prop} {a : Act} {w : World}
theorem Qa:∀(qs:List Nat) (lq:List Oper) (fuel:Nat) (listed:Array Bool) (a:Act) (w:World),Bv l qs=lq→lq.length=qs.length→Region.noSelect l.toArray=true→(Ef md l.toArray listed qs).2=true→S w→(listed.getD s true=false→C w)→
 (∀i∈qs,i≠s)→((∀w,S w)∨((∀w,C w→S w)∧listed.getD s true=false∧∀i∈qs,Tg md l.toArray s i))→(∀c a a' w,Q (.panic c) a w→Q (.panic c) a' w)→
 Th P l.toArray S (fun a'=>Rg P md l.toArray Q s C fuel (Ef md l.toArray listed qs).1 a' w) lq a→Rg P md l.toArray Q s C (fuel+qs.length) listed a w
 | [],lq,fuel,listed,a,w,hp,_,_,hB,hS,_,_,_,_,h=>by subst hp;exact h
 | i::is,lq,fuel,listed,a,w,hp,hl,hs,hB,hS,hK,hne,hC,hQ,h=>by
  simp only[Ef,Bool.and_eq_true]at hB;obtain⟨⟨hr,hf⟩,hB⟩:=hB;simp only[Bv]at hp;cases hi:l[i]? with
  | none=>rw[hi]at hp;subst hp;simp at hl
  | some o=>
   rw[hi]at hp;subst hp;obtain⟨v,hy,h⟩:=h;have aB:l.toArray[i]?=some o:=by simpa using hi
   have aA:i≠s:=hne i (by simp);refine Wt aB (Region.noSelect_spec hs) hQ aA _ _ _ _ (Region.free_spec aB hf) (by simpa using hr) hy hS hK ?_ (Qa is _ fuel _ _ w rfl (by simpa using hl) hs hB hS (fun h=>hK (by rwa [getD_set_ne true aA]at h)) (fun k hk=>hne k (by simp[hk])) ?_ hQ h)
   ·rcases hC with h | ⟨h1,h2,h3⟩
    ·exact .inl h
    ·exact .inr ⟨h1,h2,h3 i (by simp)⟩
   ·rcases hC with h | ⟨h1,h2,h3⟩
    ·exact .inl h
    ·exact .inr ⟨h1,by rw[getD_set_ne true aA];exact h2,fun k hk=>h3 k (by simp[hk])⟩
def Fr (P:Program) (l:List Oper) (Q:Exit→Act→World→Prop) (s:Nat) (C:World→Prop) (done:List Nat) (a:Act) (w:World):Prop:=
 Rg P .any l.toArray (Vg Q) s C (l.length-done.length) (P9 l.length done) a w
theorem Wp (s:Nat) (C:World→Prop) {id:Nat} (hm:P.follows .mixedOrders=true) (h:Fr P l Q s C [] a w.drew):(Code.region id l.toArray true).wp P Q a w:=by
 refine Code.wp_mono Xb (wp_region_any hm (Uo (s:=s) (C:=C) _ _ _ _ ?_));have e:l.toArray.size=l.length:=by simp
 rw[e];exact h
theorem Zy {done:List Nat} (qs:List Nat) {lq:List Oper} (hs:Region.noSelect l.toArray=true) (h1:(Ef .any l.toArray (P9 l.length done) qs).2=true)
 (hq:Bv l qs=lq) (hn:(lq.length==qs.length&&decide (done.length+qs.length≤l.length))=true) (hd:Fl a.tmps.size lq=true) (hS:S w) (hK:(P9 l.length done).getD s true=false→C w)
 (hne:∀i∈qs,i≠s) (hC:(∀w,S w)∨((∀w,C w→S w)∧(P9 l.length done).getD s true=false∧∀i∈qs,Tg .any l.toArray s i))
 (A:Act) (h:∀W,S W→wpQuiet P l.toArray (fun w'=>w'=W) (fun a'=>a'=A) lq a) (hr:Fr P l Q s C (done++qs) A w):Fr P l Q s C done a w:=by
 simp only[Bool.and_eq_true,beq_iff_eq,decide_eq_true_eq]at hn;unfold Fr at *;rw[show l.length-done.length=(l.length-(done++qs).length)+qs.length by simp;omega];refine Qa qs lq _ _ a w hq hn.1 hs h1 hS hK hne hC (fun _ _ _ _ h=>h) (Ke (fun a' ha=>?_) lq a (Fj w hS lq a hd h));subst ha;rw[Ot];unfold P9 at hr ⊢;rw[List.foldl_append]at hr;exact hr
def A0x (l:List Oper) (s i:Nat):Bool:=match l[s]? with | some os=>os.after.any (fun e=>Region.binds .any e&&e.on==i)&&i != s | none=>false
theorem A0j {i:Nat} (h:A0x l s i=true):Tg .any l.toArray s i∧i≠s:=by
 unfold A0x at h;cases hl:l[s]? with
 | none=>rw[hl]at h;cases h
 | some os=>
  rw[hl]at h;simp only[Bool.and_eq_true,bne_iff_ne,ne_eq,Array.any_eq_true']at h;refine ⟨fun o ho=>?_,h.2⟩;have:o=os:=by
   have h2:l[s]?=some o:=by simpa using ho
   rw[hl]at h2;injection h2 with h2;exact h2.symm
  subst this;obtain⟨e,he,hb,hx⟩:=h.1;exact ⟨e,he,hb,by simpa using hx⟩
theorem Xr {done:List Nat} (qs:List Nat) {lq:List Oper} (hs:Region.noSelect l.toArray=true) (h1:(Ef .any l.toArray (P9 l.length done) qs).2=true)
 (hq:Bv l qs=lq) (hn:(lq.length==qs.length&&decide (done.length+qs.length≤l.length))=true) (hd:Fl a.tmps.size lq=true)
 (hw:(qs.all (A0x l s)&&((P9 l.length done).getD s true==false))=true) (hS:C w)
 (A:Act) (h:∀W,C W→wpQuiet P l.toArray (fun w'=>w'=W) (fun a'=>a'=A) lq a) (hr:Fr P l Q s C (done++qs) A w):Fr P l Q s C done a w:=by
 simp only[Bool.and_eq_true,List.all_eq_true,beq_iff_eq]at hw;exact Zy (S:=C) qs hs h1 hq hn hd hS (fun _=>hS) (fun i hi=>(A0j (hw.1 i hi)).2) (.inr ⟨fun _ h=>h,hw.2,fun i hi=>(A0j (hw.1 i hi)).1⟩) A h hr
theorem Ln {done:List Nat} (qs:List Nat) {lq:List Oper} (hs:Region.noSelect l.toArray=true) (h1:(Ef .any l.toArray (P9 l.length done) qs).2=true)
 (hq:Bv l qs=lq) (hn:(lq.length==qs.length&&decide (done.length+qs.length≤l.length))=true) (hd:Fl a.tmps.size lq=true)
 (hw:qs.all (fun i=>i != s)=true) (hK:(P9 l.length done).getD s true=false→C w)
 (A:Act) (h:∀W,wpQuiet P l.toArray (fun w'=>w'=W) (fun a'=>a'=A) lq a) (hr:Fr P l Q s C (done++qs) A w):Fr P l Q s C done a w:=
 Zy (S:=fun _=>True) qs hs h1 hq hn hd trivial hK (fun i hi=>by simpa using (List.all_eq_true.1 hw) i hi) (.inl fun _=>trivial) A (fun W _=>h W) hr
theorem Yj {done:List Nat} {o:Oper} (hr:Fp l done [s]=true) (hi:l[s]?=some o) (hg:Region.wanted o (yielded l.toArray a.tmps)=true)
 (h:∀Q':Exit→Act→World→Prop,(∀a' w',Fr P l Q s C (done++[s]) a' w'→Q' .normal a' w')→wpList P #[F8 o] Q' [F8 o] a w):Fr P l Q s C done a w:=by
 simp only[Fp,Bool.and_eq_true,beq_iff_eq,decide_eq_true_eq]at hr;unfold Fr;rw[show l.length-done.length=(l.length-done.length-1)+1 by omega];refine ⟨fun h0=>(by rw[hr.1]at h0;cases h0),fun j hj=>?_⟩;rw[hr.1]at hj;obtain rfl:j=s:=by simpa using hj
 have h1:=h (fun e a' w'=>e=.normal∧Fr P l Q j C (done++[j]) a' w') (fun a' w' h1=>⟨rfl,h1⟩);unfold wpList at h1;rw[if_pos (by simp[Region.wanted,F8])]at h1;unfold wpOp;have aA:l.toArray[j]?=some o:=by simpa using hi
 simp only[aA];rw[if_pos hg];rcases h1 with h1 | ⟨_,a,w,h2,_⟩
 ·refine .inl (Pc (fun a' w' h2=>⟨fun hx=>?_,?_⟩) (fun e a' w' hne h2=>(hne h2.1).elim) (A9c h1))
  ·by_cases hlt:j<(P9 l.length done).size
   ·simp[hlt]at hx
   ·simp[hlt]at hx
  ·have h3:=h2.2;unfold Fr P9 at h3;rw[List.foldl_append]at h3;rw[show l.length-done.length-1=l.length-(done++[j]).length by simp;omega];exact h3
 ·cases h2
theorem A3b {done:List Nat} (hn:(l.length==done.length&&(Region.ready .any l.toArray (P9 l.length done)==[]))=true) (h:Q .normal a w):Fr P l Q s C done a w:=by
 simp only[Bool.and_eq_true,beq_iff_eq]at hn;unfold Fr;rw[show l.length-done.length=0 by omega];exact And.intro hn.2 h
end
end
def B2l (a b:List UInt64):Nat→UInt64
 | 0=>0
 | i+1=>Vk (E9 a i) (E9 b i) (B2l a b i)
def A5b (a b:List UInt64) (j:Nat):UInt64:=Tk (E9 a j) (E9 b j) (B2l a b j)
def C0g (a b:List UInt64):List UInt64:=Cv (A5b a b) (E9 a) 4 4
@[simp, go_sem] theorem A2z (a b : List UInt64) : (C0g a b).length = 4 := Na _ _ _ _
theorem A9n (a b:List UInt64):∀i,(B2l a b i).toNat≤1
 | 0=>by show (0:UInt64).toNat≤1;decide
 | i+1=>B0t _ _ _ (A9n a b i)
def Fh (a b:List UInt64):List UInt64:=Z8 (C0g a b)
theorem A3p (a b:List UInt64):(Fh a b).length=4:=Eu (A2z a b)
theorem B4z (a b:List UInt64) (ha:a.length=4) (hb:b.length=4) (w:World):Calls Tryz.prog 108 #[H7 a,H7 b] w fun e w'=>e=.returned (H7 (Fh a b))∧Below w.heap.size w w':=by
 obtain⟨W0,aB⟩:=H8 (((w.alloc (Obj.cells (C9 a).toArray 184)).alloc (Obj.cells (C9 b).toArray 184)).alloc (Obj.cells (C9 (I3 4)).toArray 184));have hL:W0=M2 w [(184,C9 a),(184,C9 b),(184,C9 (I3 4))]:=aB;have B0:=Jc hL;have K0:=Jy hL rfl;have L0:=Gs 1 hL rfl;have R0:=Gs 2 hL rfl;clear hL;go_enter Tryz.func108,Tryz.ntmps108;go_wp2_with fail;rw[←aB];clear aB;rw[←Lt (f:=A5b a b) ha]at K0;go_loopw [7,5] (fun t q wr=>∃i:Nat,i≤4∧t=.int .i64 (i:Int)∧q=.int .u64 (J0 (B2l a b i))∧Bk wr w.heap.size 184 (C9 (Cv (A5b a b) (E9 a) 4 i))∧Bk wr (w.heap.size+1) 184 (C9 b)∧Bk wr (w.heap.size+2) 184 (C9 (I3 4))∧Below w.heap.size w wr) (fun t _ _=>4-(intOf t).toNat)
 case atStart=>exact ⟨0,by omega,rfl,rfl,K0,L0,R0,B0⟩
 case round=>
  clear K0 L0 R0 B0;obtain⟨i,hi,rfl,rfl,K,L,R,B⟩:=hrel;by_cases hlt:i<4
  ·have k0:=K.at_ (J1 (l:=Cv (A5b a b) (E9 a) 4 i) (i:=i) (by simpa using hlt));rw[Fk hlt,if_neg (by omega)]at k0;have l0:=L.at_ (J1 (l:=b) (i:=i) (by omega));have f0:=K.frozen i;have aG:=A9n a b i;have K3:=K.set_ i (.int .u64 (J0 (Tk (E9 a i) (E9 b i) (B2l a b i))));rw[Am,Hw (f:=A5b a b) (g:=E9 a) (x:=Tk (E9 a i) (E9 b i) (B2l a b i)) hlt rfl]at K3;go_wp2_with fail;refine Wp 16 (fun W=>W.cell? ⟨w.heap.size,i,none⟩=some (.int .u64 (J0 (E9 a i)))∧W.cell? ⟨w.heap.size+1,i,none⟩=some (.int .u64 (J0 (E9 b i)))) (by kernel_rfl) ?_;refine Xr (A:=?A1) [0,1,2,3,4,5,6,7,8] (by kernel_rfl) (by kernel_rfl) rfl (by kernel_rfl) (by kernel_rfl) (by kernel_rfl) ⟨k0,l0⟩ (h:=fun W hW=>?h1) (hr:=?r1);case h1=>obtain⟨m0,m1⟩:=hW;exact Dd
   refine Ln (A:=?A2) [9,10,11,12,13,14,15] (by kernel_rfl) (by kernel_rfl) rfl (by kernel_rfl) (by kernel_rfl) (by kernel_rfl) (fun _=>⟨k0,l0⟩) (h:=fun W=>?h2) (hr:=?r2);case h2=>
    simp only[List.append_eq,Vq,Bv,Sb];repeat (go_big_quiet_step (fail))
    refine wpQuiet_nil ?_;rfl
   refine Yj (by kernel_rfl) (by rfl) (by rfl) (fun Q' hQ'=>?_);dsimp only[F8];go_wp2_with fail;refine Ln (A:=?A3) [17] (by kernel_rfl) (by kernel_rfl) rfl (by kernel_rfl) (by kernel_rfl) (by kernel_rfl) (fun h=>absurd h (by decide)) (h:=fun W=>?h3) (hr:=?r3);case h3=>
    simp only[List.append_eq,Vq,Bv,Sb];repeat (go_big_quiet_step (fail))
    refine wpQuiet_nil ?_;rfl
   refine A3b (by kernel_rfl) ?_;go_wp2_with fail;go_roundw;case rel=>exact ⟨i+1,by omega,by go_num,rfl,K3,L.far (by show w.heap.size+1≠w.heap.size;omega) _,R.far (by show w.heap.size+2≠w.heap.size;omega) _,(B.trans (Below.refl _ _).drew).setCell (by simp) _⟩
   case measure=>simp[intOf];omega
  ·obtain rfl:i=4:=by omega
   have e5:((4:Nat):Int)=4:=rfl;rw[e5];clear e5;have hK:Bk wr w.heap.size 184 (C9 (C0g a b)):=K;obtain⟨ss,aA⟩:=H8 (C0g a b);have aC:ss.length=4:=by rw[aA];simp
   have aD:Fh a b=Z8 ss:=by rw[aA,Fh]
   have HS:=Lib.hid aD;clear aD;rw[←aA]at hK;have rk:=hK.row64 (n:=4) aC;clear K aA;go_wp2_with fail;refine (Om ss aC wr).mono ?_;rintro e w2 ⟨rfl,b2⟩;have R2:=R.bl b2;have B2:=J5 B b2;have aE:=Eu aC;have aF:=Fu 4 R2 (by simp);go_wp2_with fail;refine bodyPost_ret (E5 rfl _ _ _ _ _ _ rfl (R2.puts (vs:=C9 (Z8 ss)) (by simp[aE])) Eb rfl (by simp[Hh,aE])) rfl ⟨by rw[HS.out];rfl,C5 B2 (by show w.heap.size≤w.heap.size+2;omega) _⟩
end Go.Proofs.YtlegpkdighoflaaGreat
