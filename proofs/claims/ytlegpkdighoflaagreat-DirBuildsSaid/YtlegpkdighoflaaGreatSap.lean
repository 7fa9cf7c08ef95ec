/- A part of the proof of DirBuilds. -/
import Derived.Test.YtlegpkdighoflaaGreatSao
set_option linter.unusedVariables false
set_option linter.unusedSimpArgs false
set_option maxRecDepth 100000
set_option maxHeartbeats 40000000
namespace Go.Proofs.YtlegpkdighoflaaGreat
open Go Go.RowKit Sh
section
def Ub (P:Program) (md:Region.Mode) (ops:Array Oper) (Q:Exit→Act→World→Prop) (s:Nat) (C:World→Prop):Nat→Array Bool→Act→World→Prop
 | 0,listed,a,w=>Region.ready md ops listed=[]∧Q .normal a w
 | fuel+1,listed,a,w=>
  (Region.ready md ops listed=[]→Q .normal a w)∧
  ∀i∈Region.ready md ops listed,wpOp P ops Q i (fun a' w'=>((listed.setIfInBounds i true).getD s true=false→C w')∧Ub P md ops Q s C fuel (listed.setIfInBounds i true) a' w') a w
theorem Xc {P:Program} {md:Region.Mode} {ops:Array Oper} {Q:Exit→Act→World→Prop} {s:Nat} {C:World→Prop}:∀(fuel:Nat) (listed:Array Bool) (a:Act) (w:World),Ub P md ops Q s C fuel listed a w→wpAny P md ops Q fuel listed a w
 | 0,_,_,_,h=>h
 | fuel+1,_,_,_,h=>⟨h.1,fun i hi=>wpOp_mono (fun a' w' h'=>Xc fuel _ a' w' h'.2) (h.2 i hi)⟩
def Wl (md:Region.Mode) (ops:Array Oper) (s i:Nat):Prop:=∀os,ops[s]?=some os→∃e∈os.after,Region.binds md e=true∧e.on=i
theorem A1l {P:Program} {md:Region.Mode} {ops:Array Oper} {i s:Nat} {C S:World→Prop} {oi:Oper} {v:Value} {Q:Exit→Act→World→Prop} (hi:ops[i]?=some oi) (hsel:∀(j:Nat) (o:Oper) cs b,ops[j]?=some o→o.op≠.select cs b) (hQ:∀c a a' w,Q (.panic c) a w→Q (.panic c) a' w) (his:i≠s) :
 ∀(fuel:Nat) (listed:Array Bool) (a:Act) (w:World),
  (∀j oj,ops[j]?=some oj→j≠i→listed.getD j true=false→(∀e∈oj.after,Region.binds md e=true→e.on≠i)→oi.apart ops oj=true)→
  i∈Region.ready md ops listed→Z8 P ops S oi v a→S w→(listed.getD s true=false→C w)→
  ((∀w,S w)∨((∀w,C w→S w)∧listed.getD s true=false∧Wl md ops s i))→
  Ub P md ops Q s C fuel (listed.setIfInBounds i true) (a.put oi.dst v) w→Ub P md ops Q s C (fuel+1) listed a w
 | fuel,listed,a,w,hfree,hr,hy,hS,hK,hC,H=>by
  refine ⟨fun h=>(by rw[h]at hr;cases hr),fun j hj=>?_⟩;by_cases hji:j=i
  ·subst hji;exact hy.op hi hS ⟨fun h=>hK (by rwa [getD_set_ne true his]at h),H⟩
  ·cases fuel with
   | zero=>have:=ready_mono hj hji;rw[H.1]at this;cases this
   | succ fuel=>
    obtain⟨aA,oj,aC,aD⟩:=mem_ready.1 hj;have aG:=(mem_ready.1 hr).1;have aB:∀e∈oj.after,Region.binds md e=true→e.on≠i:=fun e he hb heq=>by
     have h1:=aD e he hb;rw[heq,getD_both aG]at h1;cases h1
    have aH:(listed.getD s true=false∧Wl md ops s i)→j≠s:=fun h e=>by
     subst e;obtain⟨e,he,hb,ho⟩:=h.2 oj aC;exact aB e he hb ho
    have aE:∀w',(((listed.setIfInBounds i true).setIfInBounds j true).getD s true=false→C w')→((listed.setIfInBounds j true).getD s true=false→C w'):=fun w' h1 h2=>h1 (by
     rw[←Array.setIfInBounds_comm _ _ hji,getD_set_ne true his];exact h2)
    have aF:(∀w,S w)∨((∀w,C w→S w)∧(listed.setIfInBounds j true).getD s true=false∧Wl md ops s i):=by
     rcases hC with h | ⟨h1,h2,h3⟩
     ·exact .inl h
     ·exact .inr ⟨h1,by rw[getD_set_ne true (aH ⟨h2,h3⟩)];exact h2,h3⟩
    have aI:∀w',((listed.setIfInBounds j true).getD s true=false→C w')→S w':=fun w' h=>by
     rcases aF with h1 | ⟨h1,h2,_⟩
     ·exact h1 w'
     ·exact h1 w' (h h2)
    refine wpOp_mono (fun a' w' h3=>⟨aE w' h3.2.1,A1l hi hsel hQ his fuel (listed.setIfInBounds j true) a' w' (fun k ok hk hki hkun hno=>?_) (ready_mono hr (Ne.symm hji)) h3.1 (aI w' (aE w' h3.2.1)) (aE w' h3.2.1) aF ?_⟩) (Xh aC (hfree j oj aC hji aA aB) (fun cs b=>hsel i oi cs b hi) (fun cs b=>hsel j oj cs b aC) hQ hy (H.2 j (ready_mono hj hji)))
    ·refine hfree k ok hk hki ?_ hno;by_cases hjk:j=k
     ·subst hjk;exact aA
     ·rw[getD_set_ne true hjk]at hkun;exact hkun
    ·rw[Array.setIfInBounds_comm _ _ hji];exact h3.2.2
section
variable {P : Program} {md : Region.Mode} {l : List Oper} {Q : Exit → Act → World → Prop} {s : Nat} {C S : World → Prop} {a : Act} {w : World}
theorem Ry:∀(qs:List Nat) (lq:List Oper) (fuel:Nat) (listed:Array Bool) (a:Act) (w:World),pick l qs=lq→lq.length=qs.length→Region.noSelect l.toArray=true→(Cu md l.toArray listed qs).2=true→S w→(listed.getD s true=false→C w)→
 (∀i∈qs,i≠s)→((∀w,S w)∨((∀w,C w→S w)∧listed.getD s true=false∧∀i∈qs,Wl md l.toArray s i))→(∀c a a' w,Q (.panic c) a w→Q (.panic c) a' w)→
 Tz P l.toArray S (fun a'=>Ub P md l.toArray Q s C fuel (Cu md l.toArray listed qs).1 a' w) lq a→Ub P md l.toArray Q s C (fuel+qs.length) listed a w
 | [],lq,fuel,listed,a,w,hp,_,_,hB,hS,_,_,_,_,h=>by subst hp;exact h
 | i::is,lq,fuel,listed,a,w,hp,hl,hs,hB,hS,hK,hne,hC,hQ,h=>by
  simp only[Cu,Bool.and_eq_true]at hB;obtain⟨⟨hr,hf⟩,hB⟩:=hB;simp only[pick]at hp;cases hi:l[i]? with
  | none=>rw[hi]at hp;subst hp;simp at hl
  | some o=>
   rw[hi]at hp;subst hp;obtain⟨v,hy,h⟩:=h;have aB:l.toArray[i]?=some o:=by simpa using hi
   have aA:i≠s:=hne i (by simp);refine A1l aB (Region.noSelect_spec hs) hQ aA _ _ _ _ (Region.free_spec aB hf) (by simpa using hr) hy hS hK ?_ (Ry is _ fuel _ _ w rfl (by simpa using hl) hs hB hS (fun h=>hK (by rwa [getD_set_ne true aA]at h)) (fun k hk=>hne k (by simp[hk])) ?_ hQ h)
   ·rcases hC with h | ⟨h1,h2,h3⟩
    ·exact .inl h
    ·exact .inr ⟨h1,h2,h3 i (by simp)⟩
   ·rcases hC with h | ⟨h1,h2,h3⟩
    ·exact .inl h
    ·exact .inr ⟨h1,by rw[getD_set_ne true aA];exact h2,fun k hk=>h3 k (by simp[hk])⟩
def Fi (P:Program) (l:List Oper) (Q:Exit→Act→World→Prop) (s:Nat) (C:World→Prop) (done:List Nat) (a:Act) (w:World):Prop:=
 Ub P .any l.toArray (Ve Q) s C (l.length-done.length) (O8 l.length done) a w
theorem A0n (s:Nat) (C:World→Prop) {id:Nat} (hm:P.follows .mixedOrders=true) (h:Fi P l Q s C [] a w.drew):(Code.region id l.toArray true).wp P Q a w:=by
 refine Code.wp_mono Ui (wp_region_any hm (Xc (s:=s) (C:=C) _ _ _ _ ?_));have e:l.toArray.size=l.length:=by simp
 rw[e];exact h
theorem A3r {done:List Nat} (qs:List Nat) {lq:List Oper} (hs:Region.noSelect l.toArray=true) (h1:(Cu .any l.toArray (O8 l.length done) qs).2=true)
 (hq:pick l qs=lq) (hn:(lq.length==qs.length&&decide (done.length+qs.length≤l.length))=true) (hd:Fb a.tmps.size lq=true) (hS:S w) (hK:(O8 l.length done).getD s true=false→C w)
 (hne:∀i∈qs,i≠s) (hC:(∀w,S w)∨((∀w,C w→S w)∧(O8 l.length done).getD s true=false∧∀i∈qs,Wl .any l.toArray s i))
 (A:Act) (h:∀W,S W→wpQuiet P l.toArray (fun w'=>w'=W) (fun a'=>a'=A) lq a) (hr:Fi P l Q s C (done++qs) A w):Fi P l Q s C done a w:=by
 simp only[Bool.and_eq_true,beq_iff_eq,decide_eq_true_eq]at hn;unfold Fi at *;rw[show l.length-done.length=(l.length-(done++qs).length)+qs.length by simp;omega];refine Ry qs lq _ _ a w hq hn.1 hs h1 hS hK hne hC (fun _ _ _ _ h=>h) (Hg (fun a' ha=>?_) lq a (Ds w hS lq a hd h));subst ha;rw[Km];unfold O8 at hr ⊢;rw[List.foldl_append]at hr;exact hr
def A7k (l:List Oper) (s i:Nat):Bool:=match l[s]? with | some os=>os.after.any (fun e=>Region.binds .any e&&e.on==i)&&i != s | none=>false
theorem A4o {i:Nat} (h:A7k l s i=true):Wl .any l.toArray s i∧i≠s:=by
 unfold A7k at h;cases hl:l[s]? with
 | none=>rw[hl]at h;cases h
 | some os=>
  rw[hl]at h;simp only[Bool.and_eq_true,bne_iff_ne,ne_eq,Array.any_eq_true']at h;refine ⟨fun o ho=>?_,h.2⟩;have:o=os:=by
   have h2:l[s]?=some o:=by simpa using ho
   rw[hl]at h2;injection h2 with h2;exact h2.symm
  subst this;obtain⟨e,he,hb,hx⟩:=h.1;exact ⟨e,he,hb,by simpa using hx⟩
theorem A2i {done:List Nat} (qs:List Nat) {lq:List Oper} (hs:Region.noSelect l.toArray=true) (h1:(Cu .any l.toArray (O8 l.length done) qs).2=true)
 (hq:pick l qs=lq) (hn:(lq.length==qs.length&&decide (done.length+qs.length≤l.length))=true) (hd:Fb a.tmps.size lq=true)
 (hw:(qs.all (A7k l s)&&((O8 l.length done).getD s true==false))=true) (hS:C w)
 (A:Act) (h:∀W,C W→wpQuiet P l.toArray (fun w'=>w'=W) (fun a'=>a'=A) lq a) (hr:Fi P l Q s C (done++qs) A w):Fi P l Q s C done a w:=by
 simp only[Bool.and_eq_true,List.all_eq_true,beq_iff_eq]at hw;exact A3r (S:=C) qs hs h1 hq hn hd hS (fun _=>hS) (fun i hi=>(A4o (hw.1 i hi)).2) (.inr ⟨fun _ h=>h,hw.2,fun i hi=>(A4o (hw.1 i hi)).1⟩) A h hr
theorem Ls {done:List Nat} (qs:List Nat) {lq:List Oper} (hs:Region.noSelect l.toArray=true) (h1:(Cu .any l.toArray (O8 l.length done) qs).2=true)
 (hq:pick l qs=lq) (hn:(lq.length==qs.length&&decide (done.length+qs.length≤l.length))=true) (hd:Fb a.tmps.size lq=true)
 (hw:qs.all (fun i=>i != s)=true) (hK:(O8 l.length done).getD s true=false→C w)
 (A:Act) (h:∀W,wpQuiet P l.toArray (fun w'=>w'=W) (fun a'=>a'=A) lq a) (hr:Fi P l Q s C (done++qs) A w):Fi P l Q s C done a w:=
 A3r (S:=fun _=>True) qs hs h1 hq hn hd trivial hK (fun i hi=>by simpa using (List.all_eq_true.1 hw) i hi) (.inl fun _=>trivial) A (fun W _=>h W) hr
theorem A0t {done:List Nat} {o:Oper} (hr:Eh l done [s]=true) (hi:l[s]?=some o) (hg:Region.wanted o (yielded l.toArray a.tmps)=true)
 (h:∀Q':Exit→Act→World→Prop,(∀a' w',Fi P l Q s C (done++[s]) a' w'→Q' .normal a' w')→wpList P #[E4 o] Q' [E4 o] a w):Fi P l Q s C done a w:=by
 simp only[Eh,Bool.and_eq_true,beq_iff_eq,decide_eq_true_eq]at hr;unfold Fi;rw[show l.length-done.length=(l.length-done.length-1)+1 by omega];refine ⟨fun h0=>(by rw[hr.1]at h0;cases h0),fun j hj=>?_⟩;rw[hr.1]at hj;obtain rfl:j=s:=by simpa using hj
 have h1:=h (fun e a' w'=>e=.normal∧Fi P l Q j C (done++[j]) a' w') (fun a' w' h1=>⟨rfl,h1⟩);unfold wpList at h1;rw[if_pos (by simp[Region.wanted,E4])]at h1;unfold wpOp;have aA:l.toArray[j]?=some o:=by simpa using hi
 simp only[aA];rw[if_pos hg];rcases h1 with h1 | ⟨_,a,w,h2,_⟩
 ·refine .inl (Pu (fun a' w' h2=>⟨fun hx=>?_,?_⟩) (fun e a' w' hne h2=>(hne h2.1).elim) (B8j h1))
  ·by_cases hlt:j<(O8 l.length done).size
   ·simp[hlt]at hx
   ·simp[hlt]at hx
  ·have h3:=h2.2;unfold Fi O8 at h3;rw[List.foldl_append]at h3;rw[show l.length-done.length-1=l.length-(done++[j]).length by simp;omega];exact h3
 ·cases h2
theorem B0v {done:List Nat} (hn:(l.length==done.length&&(Region.ready .any l.toArray (O8 l.length done)==[]))=true) (h:Q .normal a w):Fi P l Q s C done a w:=by
 simp only[Bool.and_eq_true,beq_iff_eq]at hn;unfold Fi;rw[show l.length-done.length=0 by omega];exact And.intro hn.2 h
end
end
def C0z (a b:List UInt64):Nat→UInt64
 | 0=>0
 | i+1=>Yc (J6 a i) (J6 b i) (C0z a b i)
def B1q (a b:List UInt64) (j:Nat):UInt64:=Wy (J6 a j) (J6 b j) (C0z a b j)
def D1g (a b:List UInt64):List UInt64:=Jz (B1q a b) (J6 a) 4 4
@[simp, go_sem] theorem B2f (a b : List UInt64) : (D1g a b).length = 4 := Ot _ _ _ _
theorem B7d (a b:List UInt64):∀i,(C0z a b i).toNat≤1
 | 0=>by show (0:UInt64).toNat≤1;decide
 | i+1=>B6u _ _ _ (B7d a b i)
def Da (a b:List UInt64):List UInt64:=Z4 (D1g a b)
theorem B2b (a b:List UInt64):(Da a b).length=4:=Dy (B2f a b)
theorem C4d (a b:List UInt64) (ha:a.length=4) (hb:b.length=4) (w:World):Calls Tryz.prog 108 #[J7 a,J7 b] w fun e w'=>e=.returned (J7 (Da a b))∧Below w.heap.size w w':=by
 obtain⟨W0,aB⟩:∃z,z=((w.alloc (Obj.cells (C7 a).toArray 184)).alloc (Obj.cells (C7 b).toArray 184)).alloc (Obj.cells (C7 (J8 4)).toArray 184):=⟨_,rfl⟩;have hL:W0=Q5 w [(184,C7 a),(184,C7 b),(184,C7 (J8 4))]:=aB;have B0:Below w.heap.size w W0:=by rw[hL];exact J9 _ _
 have K0:Bk W0 w.heap.size 184 (C7 a):=by rw[hL];exact F9 _ w 0 _ _ rfl
 have L0:Bk W0 (w.heap.size+1) 184 (C7 b):=by rw[hL];exact F9 _ w 1 _ _ rfl
 have R0:Bk W0 (w.heap.size+2) 184 (C7 (J8 4)):=by rw[hL];exact F9 _ w 2 _ _ rfl
 clear hL;go_enter Tryz.func108,Tryz.ntmps108;go_wp2_with fail;rw[←aB];clear aB;rw[←A3t (f:=B1q a b) ha]at K0;go_loopw [7,5] (fun t q wr=>∃i:Nat,i≤4∧t=.int .i64 (i:Int)∧q=.int .u64 (J0 (C0z a b i))∧Bk wr w.heap.size 184 (C7 (Jz (B1q a b) (J6 a) 4 i))∧Bk wr (w.heap.size+1) 184 (C7 b)∧Bk wr (w.heap.size+2) 184 (C7 (J8 4))∧Below w.heap.size w wr) (fun t _ _=>4-(intOf t).toNat)
 case atStart=>exact ⟨0,by omega,rfl,rfl,K0,L0,R0,B0⟩
 case round=>
  clear K0 L0 R0 B0;obtain⟨i,hi,rfl,rfl,K,L,R,B⟩:=hrel;by_cases hlt:i<4
  ·have k0:=K.at_ (M2 (l:=Jz (B1q a b) (J6 a) 4 i) (i:=i) (by simpa using hlt));rw[B1x hlt,if_neg (by omega)]at k0;have l0:=L.at_ (M2 (l:=b) (i:=i) (by omega));have f0:=K.frozen i;have aG:=B7d a b i;have K3:=K.set_ i (.int .u64 (J0 (Wy (J6 a i) (J6 b i) (C0z a b i))));rw[Dh,A2m (f:=B1q a b) (g:=J6 a) (x:=Wy (J6 a i) (J6 b i) (C0z a b i)) hlt rfl]at K3;go_wp2_with fail;refine A0n 16 (fun W=>W.cell? ⟨w.heap.size,i,none⟩=some (.int .u64 (J0 (J6 a i)))∧W.cell? ⟨w.heap.size+1,i,none⟩=some (.int .u64 (J0 (J6 b i)))) (by kernel_rfl) ?_;refine A2i (A:=?A1) [0,1,2,3,4,5,6,7,8] (by kernel_rfl) (by kernel_rfl) rfl (by kernel_rfl) (by kernel_rfl) (by kernel_rfl) ⟨k0,l0⟩ (h:=fun W hW=>?h1) (hr:=?r1);case h1=>
    obtain⟨m0,m1⟩:=hW;simp only[pick,List.getElem?_cons_zero,List.getElem?_cons_succ];repeat (go_big_quiet_step (fail))
    refine wpQuiet_nil ?_;rfl
   refine Ls (A:=?A2) [9,10,11,12,13,14,15] (by kernel_rfl) (by kernel_rfl) rfl (by kernel_rfl) (by kernel_rfl) (by kernel_rfl) (fun _=>⟨k0,l0⟩) (h:=fun W=>?h2) (hr:=?r2);case h2=>
    simp only[List.append_eq,List.nil_append,List.cons_append,pick,List.getElem?_cons_zero,List.getElem?_cons_succ];repeat (go_big_quiet_step (fail))
    refine wpQuiet_nil ?_;rfl
   refine A0t (by kernel_rfl) (by rfl) (by rfl) (fun Q' hQ'=>?_);dsimp only[E4];go_wp2_with fail;refine Ls (A:=?A3) [17] (by kernel_rfl) (by kernel_rfl) rfl (by kernel_rfl) (by kernel_rfl) (by kernel_rfl) (fun h=>absurd h (by decide)) (h:=fun W=>?h3) (hr:=?r3);case h3=>
    simp only[List.append_eq,List.nil_append,List.cons_append,pick,List.getElem?_cons_zero,List.getElem?_cons_succ];repeat (go_big_quiet_step (fail))
    refine wpQuiet_nil ?_;rfl
   refine B0v (by kernel_rfl) ?_;go_wp2_with fail;go_roundw;case rel=>exact ⟨i+1,by omega,by go_num,rfl,K3,L.far (by show w.heap.size+1≠w.heap.size;omega) _,R.far (by show w.heap.size+2≠w.heap.size;omega) _,(B.trans (Below.refl _ _).drew).setCell (by simp) _⟩
   case measure=>simp[intOf];omega
  ·obtain rfl:i=4:=by omega
   have e5:((4:Nat):Int)=4:=rfl;rw[e5];clear e5;have hK:Bk wr w.heap.size 184 (C7 (D1g a b)):=K;obtain⟨ss,aA⟩:∃d,d=D1g a b:=⟨_,rfl⟩;have aC:ss.length=4:=by rw[aA];simp
   have aD:Da a b=Z4 ss:=by rw[aA,Da]
   have HS:=Lib.hid aD;clear aD;rw[←aA]at hK;have rk:=hK.row64 (n:=4) aC;clear K aA;go_wp2_with fail;refine (Ps ss aC wr).mono ?_;rintro e w2 ⟨rfl,b2⟩;have R2:=R.below b2 R.lt;have B2:=C0 B b2 B.size;have aE:=Dy aC;have aF:E8 w2 ⟨w.heap.size+2,0,none⟩ 4=true:=R2.can (by simp);go_wp2_with fail;refine bodyPost_ret (E9 rfl _ _ _ _ _ _ rfl (R2.puts (vs:=C7 (Z4 ss)) (by simp[aE])) Dt rfl (by simp[He,aE])) rfl ⟨by rw[HS.out];rfl,C1 B2 (by show w.heap.size≤w.heap.size+2;omega) _⟩
theorem A5e (b:List UInt8) (n m g:Nat) (t:TypeId) (hb:b.length=n) (hn:n=8*m) (hm:m≤8) (w:World) (K:Bk w g t (c8 b)):Calls Tryz.prog 144 #[.slice (some ⟨g,0,none⟩) n n] w fun e w'=>∃p,e=.returned (.slice (some ⟨p,0,none⟩) m m)∧Bk w' p 117 (C7 (wl b m n))∧w.heap.size≤p∧Below w.heap.size w w':=by
 have hd:(n:Int) / 8=(m:Int):=by omega
 obtain⟨W0,aA⟩:∃z,z=w.alloc (Obj.cells (C7 (J8 m)).toArray 117):=⟨_,rfl⟩;have D0:Bk W0 w.heap.size 117 (C7 (wl b m 0)):=by rw[aA];exact Bk.new _ _ _
 have K0:Bk W0 g t (c8 b):=by rw[aA];exact K.alloc _
 have B0:Below w.heap.size w W0:=by rw[aA];exact (Below.refl _ _).alloc (Nat.le_refl _) _
 have hg:=K.lt;go_enter Tryz.func144,Tryz.ntmps144;go_wp2_with (refine A3l rfl _ _ rfl m _ _ rfl rfl (by omega) ?_);rw[←aA];clear aA K;go_wp2_with fail;go_loopw [12] (fun x wr=>∃i:Nat,i≤n∧x=.int .i64 (i:Int)∧Bk wr g t (c8 b)∧Bk wr w.heap.size 117 (C7 (wl b m i))∧Below w.heap.size w wr) (fun x _=>n-(intOf x).toNat)
 case atStart=>exact ⟨0,by omega,rfl,K0,D0,B0⟩
 case round=>
  clear K0 D0 B0;obtain⟨i,hi,rfl,K,D,B⟩:=hrel;by_cases hlt:i<n
  ·have aD:(i:Int) / 8=((i / 8:Nat):Int):=by omega
   have aE:(i:Int) % 8=((i % 8:Nat):Int):=by omega
   have hx:wl b m (i+1)=(wl b m i).set (i / 8) (J6 (wl b m i) (i / 8) ||| (g8 b i).toUInt64 <<< UInt64.ofNat (8*(i % 8))):=rfl;have k0:=K.at_ (Fm (l:=b) (i:=i) (by omega));have d0:=D.at_ (M2 (l:=wl b m i) (i:=i / 8) (by simp;omega));have f0:=D.frozen (i / 8);have aF:i / 8<m:=by omega
   have aG:i % 8<8:=by omega
   have D3:=D.set_ (i / 8) (.int .u64 (J0 (J6 (wl b m i) (i / 8) ||| (g8 b i).toUInt64 <<< UInt64.ofNat (8*(i % 8)))));rw[Dh,←hx]at D3;have HX:=Lib.hid hx;clear hx;generalize i / 8=qq at *;generalize i % 8=rr at *;obtain⟨ss,aB⟩:∃s,s=8*rr:=⟨_,rfl⟩;have h8:8*(rr:Int)=(ss:Int):=by omega
   have aC:ss<64:=by omega
   rw[←aB]at D3;clear HX aB;go_wp2_with fail;go_roundw;case rel=>exact ⟨i+1,by omega,by go_num,K.far (by show g≠w.heap.size;omega) _,D3,B.setCell (by simp) _⟩
   case measure=>simp[intOf];omega
  ·obtain rfl:i=n:=by omega
   go_wp2_with fail;go_ret;exact ⟨_,rfl,D,Nat.le_refl _,B⟩
@[go_sem ↓ high] theorem E8x (x : UInt64) (k : IntKind) : Op.shift .shl .u64 (J0 x) k 1 = pure (.int .u64 (J0 (x <<< 1))) := Bp x k 1 (by decide)
def shC (r:List UInt64) (c:UInt64):Nat→UInt64
 | 0=>c
 | j+1=>J6 r j >>> (63:UInt64)
def shW (r:List UInt64) (c:UInt64) (j:Nat):UInt64:=J6 r j <<< (1:UInt64) ||| shC r c j
def C4v (r:List UInt64) (c:UInt64):List UInt64:=Jz (shW r c) (J6 r) 4 4
@[simp, go_sem] theorem A8o (r : List UInt64) (c : UInt64) : (C4v r c).length = 4 := Ot _ _ _ _
def Mw (r:List UInt64) (x:UInt64):Nat→List UInt64
 | 0=>r
 | m+1=>Z4 (C4v (Mw r x m) (x >>> UInt64.ofNat (63-m) &&& 1))
theorem Sf {r:List UInt64} (hr:r.length=4) (x:UInt64):∀m,(Mw r x m).length=4
 | 0=>hr
 | m+1=>Dy (A8o _ _)
def Xg (ws:List UInt64):Nat→List UInt64
 | 0=>J8 4
 | m+1=>Mw (Xg ws m) (J6 ws (ws.length-1-m)) 64
theorem Nl (ws:List UInt64):∀m,(Xg ws m).length=4
 | 0=>by simp[Xg]
 | m+1=>Sf (Nl ws m) _ _
def Qe (ws:List UInt64):List UInt64:=Xg ws ws.length
theorem Gf (ws:List UInt64):(Qe ws).length=4:=Nl _ _
theorem A5h (ws:List UInt64) (n g:Nat) (t:TypeId) (hn:ws.length=n) (hn8:n≤8) (w:World) (K:Bk w g t (C7 ws)):Calls Tryz.prog 139 #[.slice (some ⟨g,0,none⟩) n n] w fun e w'=>e=.returned (J7 (Qe ws))∧Below w.heap.size w w':=by
 obtain⟨W0,aD⟩:∃z,z=(w.alloc (Obj.cells (C7 (J8 4)).toArray 184)).alloc (Obj.cells (C7 (J8 4)).toArray 182):=⟨_,rfl⟩;have hL:W0=Q5 w [(184,C7 (J8 4)),(182,C7 (J8 4))]:=aD;have B0:Below w.heap.size w W0:=by rw[hL];exact J9 _ _
 have R0:Bk W0 w.heap.size 184 (C7 (J8 4)):=by rw[hL];exact F9 _ w 0 _ _ rfl
 have D0:Bk W0 (w.heap.size+1) 182 (C7 (Xg ws 0)):=by rw[hL];exact F9 _ w 1 _ _ rfl
 have K0:Bk W0 g t (C7 ws):=K.below B0 K.lt;have hg:=K.lt;clear hL K;go_enter Tryz.func139,Tryz.ntmps139;go_wp2_with fail;rw[←aD];clear aD;go_loopw [4] (fun x wr=>∃m:Nat,m≤n∧x=.int .i64 ((n:Int)-1-(m:Int))∧Bk wr g t (C7 ws)∧Bk wr (w.heap.size+1) 182 (C7 (Xg ws m))∧Bk wr w.heap.size 184 (C7 (J8 4))∧Below w.heap.size w wr) (fun x _=>(intOf x+1).toNat)
 case atStart=>exact ⟨0,by omega,by simp,K0,D0,R0,B0⟩
 case round=>
  clear K0 D0 R0 B0;obtain⟨m,hm,rfl,K,D,R,B⟩:=hrel;by_cases hlt:m<n
  ·obtain⟨q,hq⟩:∃q,q=n-1-m:=⟨_,rfl⟩;have aE:(n:Int)-1-(m:Int)=(q:Int):=by omega
   have aL:q<ws.length:=by omega
   rw[aE];obtain⟨r0,aB⟩:∃r,r=Xg ws m:=⟨_,rfl⟩;have aF:r0.length=4:=by rw[aB];exact Nl ws m
   obtain⟨x,hx⟩:∃x,x=J6 ws q:=⟨_,rfl⟩;have HN:Hid (Xg ws (m+1)=Mw r0 x 64):=Lib.hid (by rw[aB,hx,hq,←hn];rfl);rw[←aB]at D;have aM:=Lib.hid hx;clear aB hx;have D0:Bk wr (w.heap.size+1) 182 (C7 (Mw r0 x 0)):=D;have e2:(q:Int)=(n:Int)-1-(m:Int):=aE.symm;have E2:=Lib.hid e2;clear aE e2 D hq;go_wp2_with fail;go_loopw [5] (fun y wr=>∃k:Nat,k≤64∧y=.int .i64 (63-(k:Int))∧Bk wr g t (C7 ws)∧Bk wr (w.heap.size+1) 182 (C7 (Mw r0 x k))∧Bk wr w.heap.size 184 (C7 (J8 4))∧Below w.heap.size w wr) (fun y _=>(intOf y+1).toNat)
   case atStart=>exact ⟨0,by omega,rfl,K,D0,R,B⟩
   case round=>
    clear K D0 R B;obtain⟨k,hk,rfl,K,D,R,B⟩:=hrel;by_cases hlk:k<64
    ·obtain⟨s,hs⟩:∃s,s=63-k:=⟨_,rfl⟩;have es:63-(k:Int)=(s:Int):=by omega
     have aN:s<64:=by omega
     rw[es];obtain⟨r,hr⟩:∃r,r=Mw r0 x k:=⟨_,rfl⟩;have aO:r.length=4:=by rw[hr];exact Sf aF x k
     obtain⟨c0,aG⟩:∃c,c=x >>> UInt64.ofNat s &&& 1:=⟨_,rfl⟩;have HB:Hid (Mw r0 x (k+1)=Z4 (C4v r c0)):=Lib.hid (by rw[hr,aG,hs];rfl);have ES:=Lib.hid es;rw[←hr]at D;have k0:=K.at_ (M2 (l:=ws) (i:=q) aL);rw[←aM.out]at k0;clear hr hs es;rw[←A3t (f:=shW r c0) aO]at D;go_wp2_with fail;rw[←aG];clear k0 aG;go_loopw [27,6] (fun z c wr=>∃j:Nat,j≤4∧z=.int .i64 (j:Int)∧c=.int .u64 (J0 (shC r c0 j))∧Bk wr g t (C7 ws)∧Bk wr (w.heap.size+1) 182 (C7 (Jz (shW r c0) (J6 r) 4 j))∧Bk wr w.heap.size 184 (C7 (J8 4))∧Below w.heap.size w wr) (fun z _ _=>4-(intOf z).toNat)
     case atStart=>exact ⟨0,by omega,rfl,rfl,K,D,R,B⟩
     case round=>
      clear K D R B;obtain⟨j,hj,rfl,rfl,K,D,R,B⟩:=hrel;by_cases hlj:j<4
      ·have d0:=D.at_ (M2 (l:=Jz (shW r c0) (J6 r) 4 j) (i:=j) (by simpa using hlj));rw[B1x hlj,if_neg (by omega)]at d0;have f0:=D.frozen j;have D3:=D.set_ j (.int .u64 (J0 (J6 r j <<< (1:UInt64) ||| shC r c0 j)));rw[Dh,A2m (f:=shW r c0) (g:=J6 r) (x:=J6 r j <<< (1:UInt64) ||| shC r c0 j) hlj rfl]at D3;go_wp2_with fail;refine A0n 12 (fun W=>W.cell? ⟨w.heap.size+1,j,none⟩=some (.int .u64 (J0 (J6 r j)))) (by kernel_rfl) ?_;refine Ls (A:=?A1) [0,1,2,7,8] (by kernel_rfl) (by kernel_rfl) rfl (by kernel_rfl) (by kernel_rfl) (by kernel_rfl) (fun _=>d0) (h:=fun W=>?h1) (hr:=?r1);case h1=>
        simp only[pick,List.getElem?_cons_zero,List.getElem?_cons_succ];repeat (go_big_quiet_step (fail))
        refine wpQuiet_nil ?_;rfl
       refine A2i (A:=?A2) [3,9] (by kernel_rfl) (by kernel_rfl) rfl (by kernel_rfl) (by kernel_rfl) (by kernel_rfl) d0 (h:=fun W hW=>?h2) (hr:=?r2);case h2=>
        simp only[List.append_eq,List.nil_append,List.cons_append,pick,List.getElem?_cons_zero,List.getElem?_cons_succ];repeat (go_big_quiet_step (fail))
        refine wpQuiet_nil ?_;rfl
       refine Ls (A:=?A4) [4,5,6,10,11] (by kernel_rfl) (by kernel_rfl) rfl (by kernel_rfl) (by kernel_rfl) (by kernel_rfl) (fun _=>d0) (h:=fun W=>?h4) (hr:=?r4);case h4=>
        simp only[List.append_eq,List.nil_append,List.cons_append,pick,List.getElem?_cons_zero,List.getElem?_cons_succ];repeat (go_big_quiet_step (fail))
        refine wpQuiet_nil ?_;rfl
       refine A0t (by kernel_rfl) (by rfl) (by rfl) (fun Q' hQ'=>?_);dsimp only[E4];go_wp2_with fail;refine Ls (A:=?A3) [13] (by kernel_rfl) (by kernel_rfl) rfl (by kernel_rfl) (by kernel_rfl) (by kernel_rfl) (fun h=>absurd h (by decide)) (h:=fun W=>?h3) (hr:=?r3);case h3=>
        simp only[List.append_eq,List.nil_append,List.cons_append,pick,List.getElem?_cons_zero,List.getElem?_cons_succ];repeat (go_big_quiet_step (fail))
        refine wpQuiet_nil ?_;rfl
       refine B0v (by kernel_rfl) ?_;go_wp2_with fail;go_roundw;case rel=>exact ⟨j+1,by omega,by go_num,rfl,K.drew.far (by show g≠w.heap.size+1;omega) _,D3,R.drew.far (by show w.heap.size≠w.heap.size+1;omega) _,(B.trans (Below.refl _ _).drew).setCell (by simp) _⟩
       case measure=>simp[intOf];omega
      ·obtain rfl:j=4:=by omega
       have e4:((4:Nat):Int)=4:=rfl;rw[e4];clear e4;have hD:Bk wr (w.heap.size+1) 182 (C7 (C4v r c0)):=D;obtain⟨y,hy⟩:∃y,y=C4v r c0:=⟨_,rfl⟩;have aA:y.length=4:=by rw[hy];simp
       have aH:Hid (Mw r0 x (k+1)=Z4 y):=Lib.hid (by rw[HB.out,hy]);rw[←hy]at hD;have rk:=hD.row64 (n:=4) aA;clear D hy;go_wp2_with fail;refine (Ps y aA wr).mono ?_;rintro e w2 ⟨rfl,b2⟩;have K2:=K.below b2 K.lt;have D2:=hD.below b2 hD.lt;have R2:=R.below b2 R.lt;have B2:=C0 B b2 B.size;have aI:=Dy aA;have aJ:E8 w2 ⟨w.heap.size+1,0,none⟩ 4=true:=D2.can (by simp[aA]);have D3:=D2.puts (vs:=C7 (Z4 y)) (by simp[aA,aI]);rw[←aH.out]at D3;have K3:=K2.putFar (p:=⟨w.heap.size+1,0,none⟩) (by show g≠w.heap.size+1;omega) (C7 (Z4 y));have R3:=R2.putFar (p:=⟨w.heap.size+1,0,none⟩) (by show w.heap.size≠w.heap.size+1;omega) (C7 (Z4 y));have B3:=C1 (a:=⟨w.heap.size+1,0,none⟩) B2 (by simp) (C7 (Z4 y));rw[aH.out]at D3;go_wp2_with fail;go_roundw;case rel=>exact ⟨k+1,by omega,by rw[←ES.out];all_goals (simp<;>omega),K3,by rw[aH.out];exact D3,R3,B3⟩
       case measure=>have:=ES.out;simp[intOf]<;>omega
    ·obtain rfl:k=64:=by omega
     rw[←HN.out]at D;have e3:=E2.out;go_wp2_with fail;go_roundw;case rel=>exact ⟨m+1,by omega,by simp<;>omega,K,D,R,B⟩
     case measure=>simp[intOf];omega
  ·obtain rfl:m=n:=by omega
   have hD:Bk wr (w.heap.size+1) 182 (C7 (Qe ws)):=by have:=D;rw[←hn]at this;exact this
   obtain⟨ss,aC⟩:∃d,d=Qe ws:=⟨_,rfl⟩;have aK:ss.length=4:=by rw[aC];exact Gf ws
   have HS:Hid (Qe ws=ss):=Lib.hid aC.symm;rw[←aC]at hD;have rk:=hD.row64 (n:=4) aK;have aP:decide (0≤(m:Int)-1-(m:Int))=false:=decide_eq_false (by omega);have aJ:E8 wr ⟨w.heap.size,0,none⟩ 4=true:=R.can (by simp);clear D aC;go_wp2_with fail;refine bodyPost_ret (E9 rfl _ _ _ _ _ _ rfl (R.puts (vs:=C7 ss) (by simp[aK])) Dt rfl (by simp[He,aK])) rfl ⟨by rw[HS.out];rfl,C1 B (Nat.le_refl _) _⟩
def Ou (b:List UInt8):List UInt64:=Qe (wl b 8 64)
theorem Ep (b:List UInt8):(Ou b).length=4:=Gf _
@[go_sem ↓ high] theorem E9f:RB' 61:=BX' _
theorem A4f (b:List UInt8) (hb:b.length=64) (w:World):Calls Tryz.prog 135 #[A8 b] w fun e w'=>e=.returned (J7 (Ou b))∧Below w.heap.size w w':=by
 obtain⟨W0,aB⟩:∃z,z=(w.alloc (Obj.cells (c8 b).toArray 61)).alloc (Obj.cells (C7 (J8 4)).toArray 184):=⟨_,rfl⟩;have hL:W0=Q5 w [(61,c8 b),(184,C7 (J8 4))]:=aB;have B0:Below w.heap.size w W0:=by rw[hL];exact J9 _ _
 have K0:Bk W0 w.heap.size 61 (c8 b):=by rw[hL];exact F9 _ w 0 _ _ rfl
 have R0:Bk W0 (w.heap.size+1) 184 (C7 (J8 4)):=by rw[hL];exact F9 _ w 1 _ _ rfl
 clear hL;go_enter Tryz.func135,Tryz.ntmps135;go_wp2_with fail;rw[←aB];clear aB;refine (A5e b 64 8 w.heap.size _ hb rfl (by decide) W0 K0).mono ?_;rintro e w1 ⟨p,rfl,P1,hp,b1⟩;have R1:=R0.below b1 R0.lt;have B1:=C0 B0 b1 B0.size;obtain⟨ws,aA⟩:∃l,l=wl b 8 64:=⟨_,rfl⟩;have aC:ws.length=8:=by rw[aA];simp
 have HS:Hid (Ou b=Qe ws):=Lib.hid (by rw[aA];rfl);rw[←aA]at P1;clear aA;go_wp2_with fail;refine (A5h ws 8 p _ aC (by decide) w1 P1).mono ?_;rintro e w2 ⟨rfl,b2⟩;have R2:=R1.below b2 R1.lt;have B2:=C0 B1 b2 B1.size;have hl:=Gf ws;have aD:E8 w2 ⟨w.heap.size+1,0,none⟩ 4=true:=R2.can (by simp);go_wp2_with fail;refine bodyPost_ret (E9 rfl _ _ _ _ _ _ rfl (R2.puts (vs:=C7 (Qe ws)) (by simp[hl])) Dt rfl (by simp[He,hl])) rfl ⟨by rw[HS.out];rfl,C1 B2 (by simp) _⟩
end Go.Proofs.YtlegpkdighoflaaGreat
