/- A part of the proof of ClientForks. -/
import Derived.Test.YtdfpoofbgjilgaaGreatVao
set_option linter.unusedVariables false
set_option linter.unusedSimpArgs false
set_option maxRecDepth 100000
set_option maxHeartbeats 40000000
namespace Go.Proofs.YtdfpoofbgjilgaaGreat
open Go Go.RowKit Sh
section
def Qm (P:Program) (md:Region.Mode) (ops:Array Oper) (Q:Exit→Act→World→Prop) (s:Nat) (C:World→Prop):Nat→Array Bool→Act→World→Prop
 | 0,listed,a,w=>Region.ready md ops listed=[]∧Q .normal a w
 | fuel+1,listed,a,w=>
  (Region.ready md ops listed=[]→Q .normal a w)∧
  ∀i∈Region.ready md ops listed,wpOp P ops Q i (fun a' w'=>((listed.setIfInBounds i true).getD s true=false→C w')∧Qm P md ops Q s C fuel (listed.setIfInBounds i true) a' w') a w
theorem Xa {P:Program} {md:Region.Mode} {ops:Array Oper} {Q:Exit→Act→World→Prop} {s:Nat} {C:World→Prop}:∀(fuel:Nat) (listed:Array Bool) (a:Act) (w:World),Qm P md ops Q s C fuel listed a w→wpAny P md ops Q fuel listed a w
 | 0,_,_,_,h=>h
 | fuel+1,_,_,_,h=>⟨h.1,fun i hi=>wpOp_mono (fun a' w' h'=>Xa fuel _ a' w' h'.2) (h.2 i hi)⟩
def Vh (md:Region.Mode) (ops:Array Oper) (s i:Nat):Prop:=∀os,ops[s]?=some os→∃e∈os.after,Region.binds md e=true∧e.on=i
theorem A2k {P:Program} {md:Region.Mode} {ops:Array Oper} {i s:Nat} {C S:World→Prop} {oi:Oper} {v:Value} {Q:Exit→Act→World→Prop} (hi:ops[i]?=some oi) (hsel:∀(j:Nat) (o:Oper) cs b,ops[j]?=some o→o.op≠.select cs b) (hQ:∀c a a' w,Q (.panic c) a w→Q (.panic c) a' w) (his:i≠s) :
 ∀(fuel:Nat) (listed:Array Bool) (a:Act) (w:World),
  (∀j oj,ops[j]?=some oj→j≠i→listed.getD j true=false→(∀e∈oj.after,Region.binds md e=true→e.on≠i)→oi.apart ops oj=true)→
  i∈Region.ready md ops listed→Bp P ops S oi v a→S w→(listed.getD s true=false→C w)→
  ((∀w,S w)∨((∀w,C w→S w)∧listed.getD s true=false∧Vh md ops s i))→
  Qm P md ops Q s C fuel (listed.setIfInBounds i true) (a.put oi.dst v) w→Qm P md ops Q s C (fuel+1) listed a w
 | fuel,listed,a,w,hfree,hr,hy,hS,hK,hC,H=>by
  refine ⟨fun h=>(by rw[h]at hr;cases hr),fun j hj=>?_⟩;by_cases hji:j=i
  ·subst hji;exact hy.op hi hS ⟨fun h=>hK (by rwa [getD_set_ne true his]at h),H⟩
  ·cases fuel with
   | zero=>have:=ready_mono hj hji;rw[H.1]at this;cases this
   | succ fuel=>
    obtain⟨aA,oj,aC,aD⟩:=mem_ready.1 hj;have aG:=(mem_ready.1 hr).1;have aB:∀e∈oj.after,Region.binds md e=true→e.on≠i:=fun e he hb heq=>by
     have h1:=aD e he hb;rw[heq,getD_both aG]at h1;cases h1
    have aH:(listed.getD s true=false∧Vh md ops s i)→j≠s:=fun h e=>by
     subst e;obtain⟨e,he,hb,ho⟩:=h.2 oj aC;exact aB e he hb ho
    have aE:∀w',(((listed.setIfInBounds i true).setIfInBounds j true).getD s true=false→C w')→((listed.setIfInBounds j true).getD s true=false→C w'):=fun w' h1 h2=>h1 (by
     rw[←Array.setIfInBounds_comm _ _ hji,getD_set_ne true his];exact h2)
    have aF:(∀w,S w)∨((∀w,C w→S w)∧(listed.setIfInBounds j true).getD s true=false∧Vh md ops s i):=by
     rcases hC with h | ⟨h1,h2,h3⟩
     ·exact .inl h
     ·exact .inr ⟨h1,by rw[getD_set_ne true (aH ⟨h2,h3⟩)];exact h2,h3⟩
    have aI:∀w',((listed.setIfInBounds j true).getD s true=false→C w')→S w':=fun w' h=>by
     rcases aF with h1 | ⟨h1,h2,_⟩
     ·exact h1 w'
     ·exact h1 w' (h h2)
    refine wpOp_mono (fun a' w' h3=>⟨aE w' h3.2.1,A2k hi hsel hQ his fuel (listed.setIfInBounds j true) a' w' (fun k ok hk hki hkun hno=>?_) (ready_mono hr (Ne.symm hji)) h3.1 (aI w' (aE w' h3.2.1)) (aE w' h3.2.1) aF ?_⟩) (Wu aC (hfree j oj aC hji aA aB) (fun cs b=>hsel i oi cs b hi) (fun cs b=>hsel j oj cs b aC) hQ hy (H.2 j (ready_mono hj hji)))
    ·refine hfree k ok hk hki ?_ hno;by_cases hjk:j=k
     ·subst hjk;exact aA
     ·rw[getD_set_ne true hjk]at hkun;exact hkun
    ·rw[Array.setIfInBounds_comm _ _ hji];exact h3.2.2
section
variable {P : Program} {md : Region.Mode} {l : List Oper} {Q : Exit → Act → World → Prop} {s : Nat} {C S : World → Prop} {a : Act} {w : World}
theorem Qa:∀(qs:List Nat) (lq:List Oper) (fuel:Nat) (listed:Array Bool) (a:Act) (w:World),pick l qs=lq→lq.length=qs.length→Region.noSelect l.toArray=true→(Bo md l.toArray listed qs).2=true→S w→(listed.getD s true=false→C w)→
 (∀i∈qs,i≠s)→((∀w,S w)∨((∀w,C w→S w)∧listed.getD s true=false∧∀i∈qs,Vh md l.toArray s i))→(∀c a a' w,Q (.panic c) a w→Q (.panic c) a' w)→
 Wc P l.toArray S (fun a'=>Qm P md l.toArray Q s C fuel (Bo md l.toArray listed qs).1 a' w) lq a→Qm P md l.toArray Q s C (fuel+qs.length) listed a w
 | [],lq,fuel,listed,a,w,hp,_,_,hB,hS,_,_,_,_,h=>by subst hp;exact h
 | i::is,lq,fuel,listed,a,w,hp,hl,hs,hB,hS,hK,hne,hC,hQ,h=>by
  simp only[Bo,Bool.and_eq_true]at hB;obtain⟨⟨hr,hf⟩,hB⟩:=hB;simp only[pick]at hp;cases hi:l[i]? with
  | none=>rw[hi]at hp;subst hp;simp at hl
  | some o=>
   rw[hi]at hp;subst hp;obtain⟨v,hy,h⟩:=h;have aB:l.toArray[i]?=some o:=by simpa using hi
   have aA:i≠s:=hne i (by simp);refine A2k aB (Region.noSelect_spec hs) hQ aA _ _ _ _ (Region.free_spec aB hf) (by simpa using hr) hy hS hK ?_ (Qa is _ fuel _ _ w rfl (by simpa using hl) hs hB hS (fun h=>hK (by rwa [getD_set_ne true aA]at h)) (fun k hk=>hne k (by simp[hk])) ?_ hQ h)
   ·rcases hC with h | ⟨h1,h2,h3⟩
    ·exact .inl h
    ·exact .inr ⟨h1,h2,h3 i (by simp)⟩
   ·rcases hC with h | ⟨h1,h2,h3⟩
    ·exact .inl h
    ·exact .inr ⟨h1,by rw[getD_set_ne true aA];exact h2,fun k hk=>h3 k (by simp[hk])⟩
def Dc (P:Program) (l:List Oper) (Q:Exit→Act→World→Prop) (s:Nat) (C:World→Prop) (done:List Nat) (a:Act) (w:World):Prop:=
 Qm P .any l.toArray (Xo Q) s C (l.length-done.length) (J0 l.length done) a w
theorem A0e (s:Nat) (C:World→Prop) {id:Nat} (hm:P.follows .mixedOrders=true) (h:Dc P l Q s C [] a w.drew):(Code.region id l.toArray true).wp P Q a w:=by
 refine Code.wp_mono A1v (wp_region_any hm (Xa (s:=s) (C:=C) _ _ _ _ ?_));have e:l.toArray.size=l.length:=by simp
 rw[e];exact h
theorem A5d {done:List Nat} (qs:List Nat) {lq:List Oper} (hs:Region.noSelect l.toArray=true) (h1:(Bo .any l.toArray (J0 l.length done) qs).2=true)
 (hq:pick l qs=lq) (hn:(lq.length==qs.length&&decide (done.length+qs.length≤l.length))=true) (hd:Cp a.tmps.size lq=true) (hS:S w) (hK:(J0 l.length done).getD s true=false→C w)
 (hne:∀i∈qs,i≠s) (hC:(∀w,S w)∨((∀w,C w→S w)∧(J0 l.length done).getD s true=false∧∀i∈qs,Vh .any l.toArray s i))
 (A:Act) (h:∀W,S W→wpQuiet P l.toArray (fun w'=>w'=W) (fun a'=>a'=A) lq a) (hr:Dc P l Q s C (done++qs) A w):Dc P l Q s C done a w:=by
 simp only[Bool.and_eq_true,beq_iff_eq,decide_eq_true_eq]at hn;unfold Dc at *;rw[show l.length-done.length=(l.length-(done++qs).length)+qs.length by simp;omega];refine Qa qs lq _ _ a w hq hn.1 hs h1 hS hK hne hC (fun _ _ _ _ h=>h) (Ir (fun a' ha=>?_) lq a (Cx w hS lq a hd h));subst ha;rw[Mj];unfold J0 at hr ⊢;rw[List.foldl_append]at hr;exact hr
def A8t (l:List Oper) (s i:Nat):Bool:=match l[s]? with | some os=>os.after.any (fun e=>Region.binds .any e&&e.on==i)&&i != s | none=>false
theorem A3w {i:Nat} (h:A8t l s i=true):Vh .any l.toArray s i∧i≠s:=by
 unfold A8t at h;cases hl:l[s]? with
 | none=>rw[hl]at h;cases h
 | some os=>
  rw[hl]at h;simp only[Bool.and_eq_true,bne_iff_ne,ne_eq,Array.any_eq_true']at h;refine ⟨fun o ho=>?_,h.2⟩;have:o=os:=by
   have h2:l[s]?=some o:=by simpa using ho
   rw[hl]at h2;injection h2 with h2;exact h2.symm
  subst this;obtain⟨e,he,hb,hx⟩:=h.1;exact ⟨e,he,hb,by simpa using hx⟩
theorem A1y {done:List Nat} (qs:List Nat) {lq:List Oper} (hs:Region.noSelect l.toArray=true) (h1:(Bo .any l.toArray (J0 l.length done) qs).2=true)
 (hq:pick l qs=lq) (hn:(lq.length==qs.length&&decide (done.length+qs.length≤l.length))=true) (hd:Cp a.tmps.size lq=true)
 (hw:(qs.all (A8t l s)&&((J0 l.length done).getD s true==false))=true) (hS:C w)
 (A:Act) (h:∀W,C W→wpQuiet P l.toArray (fun w'=>w'=W) (fun a'=>a'=A) lq a) (hr:Dc P l Q s C (done++qs) A w):Dc P l Q s C done a w:=by
 simp only[Bool.and_eq_true,List.all_eq_true,beq_iff_eq]at hw;exact A5d (S:=C) qs hs h1 hq hn hd hS (fun _=>hS) (fun i hi=>(A3w (hw.1 i hi)).2) (.inr ⟨fun _ h=>h,hw.2,fun i hi=>(A3w (hw.1 i hi)).1⟩) A h hr
theorem Jn {done:List Nat} (qs:List Nat) {lq:List Oper} (hs:Region.noSelect l.toArray=true) (h1:(Bo .any l.toArray (J0 l.length done) qs).2=true)
 (hq:pick l qs=lq) (hn:(lq.length==qs.length&&decide (done.length+qs.length≤l.length))=true) (hd:Cp a.tmps.size lq=true)
 (hw:qs.all (fun i=>i != s)=true) (hK:(J0 l.length done).getD s true=false→C w)
 (A:Act) (h:∀W,wpQuiet P l.toArray (fun w'=>w'=W) (fun a'=>a'=A) lq a) (hr:Dc P l Q s C (done++qs) A w):Dc P l Q s C done a w:=
 A5d (S:=fun _=>True) qs hs h1 hq hn hd trivial hK (fun i hi=>by simpa using (List.all_eq_true.1 hw) i hi) (.inl fun _=>trivial) A (fun W _=>h W) hr
theorem Zs {done:List Nat} {o:Oper} (hr:Ey l done [s]=true) (hi:l[s]?=some o) (hg:Region.wanted o (yielded l.toArray a.tmps)=true)
 (h:∀Q':Exit→Act→World→Prop,(∀a' w',Dc P l Q s C (done++[s]) a' w'→Q' .normal a' w')→wpList P #[E5 o] Q' [E5 o] a w):Dc P l Q s C done a w:=by
 simp only[Ey,Bool.and_eq_true,beq_iff_eq,decide_eq_true_eq]at hr;unfold Dc;rw[show l.length-done.length=(l.length-done.length-1)+1 by omega];refine ⟨fun h0=>(by rw[hr.1]at h0;cases h0),fun j hj=>?_⟩;rw[hr.1]at hj;obtain rfl:j=s:=by simpa using hj
 have h1:=h (fun e a' w'=>e=.normal∧Dc P l Q j C (done++[j]) a' w') (fun a' w' h1=>⟨rfl,h1⟩);unfold wpList at h1;rw[if_pos (by simp[Region.wanted,E5])]at h1;unfold wpOp;have aA:l.toArray[j]?=some o:=by simpa using hi
 simp only[aA];rw[if_pos hg];rcases h1 with h1 | ⟨_,a,w,h2,_⟩
 ·refine .inl (Mk (fun a' w' h2=>⟨fun hx=>?_,?_⟩) (fun e a' w' hne h2=>(hne h2.1).elim) (B9i h1))
  ·by_cases hlt:j<(J0 l.length done).size
   ·simp[hlt]at hx
   ·simp[hlt]at hx
  ·have h3:=h2.2;unfold Dc J0 at h3;rw[List.foldl_append]at h3;rw[show l.length-done.length-1=l.length-(done++[j]).length by simp;omega];exact h3
 ·cases h2
theorem B0e {done:List Nat} (hn:(l.length==done.length&&(Region.ready .any l.toArray (J0 l.length done)==[]))=true) (h:Q .normal a w):Dc P l Q s C done a w:=by
 simp only[Bool.and_eq_true,beq_iff_eq]at hn;unfold Dc;rw[show l.length-done.length=0 by omega];exact And.intro hn.2 h
end
end
def C3c (a b:List UInt64):Nat→UInt64
 | 0=>0
 | i+1=>Xn (E8 a i) (E8 b i) (C3c a b i)
def B1u (a b:List UInt64) (j:Nat):UInt64:=Uu (E8 a j) (E8 b j) (C3c a b j)
def D4j (a b:List UInt64):List UInt64:=Hv (B1u a b) (E8 a) 4 4
@[simp, go_sem] theorem B0m (a b : List UInt64) : (D4j a b).length = 4 := Nb _ _ _ _
theorem C0o (a b:List UInt64):∀i,(C3c a b i).toNat≤1
 | 0=>by show (0:UInt64).toNat≤1;decide
 | i+1=>C0k _ _ _ (C0o a b i)
def B7o (a b:List UInt64):List UInt64:=Q7 (D4j a b)
theorem Wh (a b:List UInt64):(B7o a b).length=4:=Bs (B0m a b)
theorem C7x (a b:List UInt64) (ha:a.length=4) (hb:b.length=4) (w:World):Calls Tryz.prog 132 #[F8 a,F8 b] w fun e w'=>e=.returned (F8 (B7o a b))∧Below w.heap.size w w':=by
 obtain⟨W0,aB⟩:∃z,z=((w.alloc (Obj.cells (E4 a).toArray 216)).alloc (Obj.cells (E4 b).toArray 216)).alloc (Obj.cells (E4 (J7 4)).toArray 216):=⟨_,rfl⟩;have hL:W0=Q6 w [(216,E4 a),(216,E4 b),(216,E4 (J7 4))]:=aB;have B0:Below w.heap.size w W0:=by rw[hL];exact H6 _ _
 have K0:Bk W0 w.heap.size 216 (E4 a):=by rw[hL];exact E0 _ w 0 _ _ rfl
 have L0:Bk W0 (w.heap.size+1) 216 (E4 b):=by rw[hL];exact E0 _ w 1 _ _ rfl
 have R0:Bk W0 (w.heap.size+2) 216 (E4 (J7 4)):=by rw[hL];exact E0 _ w 2 _ _ rfl
 clear hL;go_enter Tryz.func132,Tryz.ntmps132;go_wp2_with fail;rw[←aB];clear aB;rw[←A3s (f:=B1u a b) ha]at K0;go_loopw [7,5] (fun t q wr=>∃i:Nat,i≤4∧t=.int .i64 (i:Int)∧q=.int .u64 (C8 (C3c a b i))∧Bk wr w.heap.size 216 (E4 (Hv (B1u a b) (E8 a) 4 i))∧Bk wr (w.heap.size+1) 216 (E4 b)∧Bk wr (w.heap.size+2) 216 (E4 (J7 4))∧Below w.heap.size w wr) (fun t _ _=>4-(intOf t).toNat)
 case atStart=>exact ⟨0,by omega,rfl,rfl,K0,L0,R0,B0⟩
 case round=>
  clear K0 L0 R0 B0;obtain⟨i,hi,rfl,rfl,K,L,R,B⟩:=hrel;by_cases hlt:i<4
  ·have k0:=K.at_ (P4 (l:=Hv (B1u a b) (E8 a) 4 i) (i:=i) (by simpa using hlt));rw[B0u hlt,if_neg (by omega)]at k0;have l0:=L.at_ (P4 (l:=b) (i:=i) (by omega));have f0:=K.frozen i;have aG:=C0o a b i;have K3:=K.set_ i (.int .u64 (C8 (Uu (E8 a i) (E8 b i) (C3c a b i))));rw[Ex,A1g (f:=B1u a b) (g:=E8 a) (x:=Uu (E8 a i) (E8 b i) (C3c a b i)) hlt rfl]at K3;go_wp2_with fail;refine A0e 16 (fun W=>W.cell? ⟨w.heap.size,i,none⟩=some (.int .u64 (C8 (E8 a i)))∧W.cell? ⟨w.heap.size+1,i,none⟩=some (.int .u64 (C8 (E8 b i)))) (by kernel_rfl) ?_;refine A1y (A:=?A1) [0,1,2,3,4,5,6,7,8] (by kernel_rfl) (by kernel_rfl) rfl (by kernel_rfl) (by kernel_rfl) (by kernel_rfl) ⟨k0,l0⟩ (h:=fun W hW=>?h1) (hr:=?r1);case h1=>
    obtain⟨m0,m1⟩:=hW;simp only[pick,List.getElem?_cons_zero,List.getElem?_cons_succ];repeat (go_big_quiet_step (fail))
    refine wpQuiet_nil ?_;rfl
   refine Jn (A:=?A2) [9,10,11,12,13,14,15] (by kernel_rfl) (by kernel_rfl) rfl (by kernel_rfl) (by kernel_rfl) (by kernel_rfl) (fun _=>⟨k0,l0⟩) (h:=fun W=>?h2) (hr:=?r2);case h2=>
    simp only[List.append_eq,List.nil_append,List.cons_append,pick,List.getElem?_cons_zero,List.getElem?_cons_succ];repeat (go_big_quiet_step (fail))
    refine wpQuiet_nil ?_;rfl
   refine Zs (by kernel_rfl) (by rfl) (by rfl) (fun Q' hQ'=>?_);dsimp only[E5];go_wp2_with fail;refine Jn (A:=?A3) [17] (by kernel_rfl) (by kernel_rfl) rfl (by kernel_rfl) (by kernel_rfl) (by kernel_rfl) (fun h=>absurd h (by decide)) (h:=fun W=>?h3) (hr:=?r3);case h3=>
    simp only[List.append_eq,List.nil_append,List.cons_append,pick,List.getElem?_cons_zero,List.getElem?_cons_succ];repeat (go_big_quiet_step (fail))
    refine wpQuiet_nil ?_;rfl
   refine B0e (by kernel_rfl) ?_;go_wp2_with fail;go_roundw;case rel=>exact ⟨i+1,by omega,by go_num,rfl,K3,L.far (by show w.heap.size+1≠w.heap.size;omega) _,R.far (by show w.heap.size+2≠w.heap.size;omega) _,(B.trans (Below.refl _ _).drew).setCell (by simp) _⟩
   case measure=>simp[intOf];omega
  ·obtain rfl:i=4:=by omega
   have e5:((4:Nat):Int)=4:=rfl;rw[e5];clear e5;have hK:Bk wr w.heap.size 216 (E4 (D4j a b)):=K;obtain⟨ss,aA⟩:∃d,d=D4j a b:=⟨_,rfl⟩;have aC:ss.length=4:=by rw[aA];simp
   have aD:B7o a b=Q7 ss:=by rw[aA,B7o]
   have HS:=Lib.hid aD;clear aD;rw[←aA]at hK;have rk:=hK.row64 (n:=4) aC;clear K aA;go_wp2_with fail;refine (Nd ss aC wr).mono ?_;rintro e w2 ⟨rfl,b2⟩;have R2:=R.below b2 R.lt;have B2:=C1 B b2 B.size;have aE:=Bs aC;have aF:E7 w2 ⟨w.heap.size+2,0,none⟩ 4=true:=R2.can (by simp);go_wp2_with fail;refine bodyPost_ret (C7 rfl _ _ _ _ _ _ rfl (R2.puts (vs:=E4 (Q7 ss)) (by simp[aE])) Cb rfl (by simp[Gg,aE])) rfl ⟨by rw[HS.out];rfl,C0 B2 (by show w.heap.size≤w.heap.size+2;omega) _⟩
theorem A5o (b:List UInt8) (n m g:Nat) (t:TypeId) (hb:b.length=n) (hn:n=8*m) (hm:m≤8) (w:World) (K:Bk w g t (c8 b)):Calls Tryz.prog 207 #[.slice (some ⟨g,0,none⟩) n n] w fun e w'=>∃p,e=.returned (.slice (some ⟨p,0,none⟩) m m)∧Bk w' p 104 (E4 (wl b m n))∧w.heap.size≤p∧Below w.heap.size w w':=by
 have hd:(n:Int) / 8=(m:Int):=by omega
 obtain⟨W0,aA⟩:∃z,z=w.alloc (Obj.cells (E4 (J7 m)).toArray 104):=⟨_,rfl⟩;have D0:Bk W0 w.heap.size 104 (E4 (wl b m 0)):=by rw[aA];exact Bk.new _ _ _
 have K0:Bk W0 g t (c8 b):=by rw[aA];exact K.alloc _
 have B0:Below w.heap.size w W0:=by rw[aA];exact (Below.refl _ _).alloc (Nat.le_refl _) _
 have hg:=K.lt;go_enter Tryz.func207,Tryz.ntmps207;go_wp2_with (refine A2v rfl _ _ rfl m _ _ rfl rfl (by omega) ?_);rw[←aA];clear aA K;go_wp2_with fail;go_loopw [12] (fun x wr=>∃i:Nat,i≤n∧x=.int .i64 (i:Int)∧Bk wr g t (c8 b)∧Bk wr w.heap.size 104 (E4 (wl b m i))∧Below w.heap.size w wr) (fun x _=>n-(intOf x).toNat)
 case atStart=>exact ⟨0,by omega,rfl,K0,D0,B0⟩
 case round=>
  clear K0 D0 B0;obtain⟨i,hi,rfl,K,D,B⟩:=hrel;by_cases hlt:i<n
  ·have aD:(i:Int) / 8=((i / 8:Nat):Int):=by omega
   have aE:(i:Int) % 8=((i % 8:Nat):Int):=by omega
   have hx:wl b m (i+1)=(wl b m i).set (i / 8) (E8 (wl b m i) (i / 8) ||| (g8 b i).toUInt64 <<< UInt64.ofNat (8*(i % 8))):=rfl;have k0:=K.at_ (Jo (l:=b) (i:=i) (by omega));have d0:=D.at_ (P4 (l:=wl b m i) (i:=i / 8) (by simp;omega));have f0:=D.frozen (i / 8);have aF:i / 8<m:=by omega
   have aG:i % 8<8:=by omega
   have D3:=D.set_ (i / 8) (.int .u64 (C8 (E8 (wl b m i) (i / 8) ||| (g8 b i).toUInt64 <<< UInt64.ofNat (8*(i % 8)))));rw[Ex,←hx]at D3;have HX:=Lib.hid hx;clear hx;generalize i / 8=qq at *;generalize i % 8=rr at *;obtain⟨ss,aB⟩:∃s,s=8*rr:=⟨_,rfl⟩;have h8:8*(rr:Int)=(ss:Int):=by omega
   have aC:ss<64:=by omega
   rw[←aB]at D3;clear HX aB;go_wp2_with fail;go_roundw;case rel=>exact ⟨i+1,by omega,by go_num,K.far (by show g≠w.heap.size;omega) _,D3,B.setCell (by simp) _⟩
   case measure=>simp[intOf];omega
  ·obtain rfl:i=n:=by omega
   go_wp2_with fail;go_ret;exact ⟨_,rfl,D,Nat.le_refl _,B⟩
@[go_sem ↓ high] theorem F4x (x : UInt64) (k : IntKind) : Op.shift .shl .u64 (C8 x) k 1 = pure (.int .u64 (C8 (x <<< 1))) := U4 x k 1 (by decide)
def shC (r:List UInt64) (c:UInt64):Nat→UInt64
 | 0=>c
 | j+1=>E8 r j >>> (63:UInt64)
def shW (r:List UInt64) (c:UInt64) (j:Nat):UInt64:=E8 r j <<< (1:UInt64) ||| shC r c j
def C9r (r:List UInt64) (c:UInt64):List UInt64:=Hv (shW r c) (E8 r) 4 4
@[simp, go_sem] theorem B0w (r : List UInt64) (c : UInt64) : (C9r r c).length = 4 := Nb _ _ _ _
def Kk (r:List UInt64) (x:UInt64):Nat→List UInt64
 | 0=>r
 | m+1=>Q7 (C9r (Kk r x m) (x >>> UInt64.ofNat (63-m) &&& 1))
theorem Qb {r:List UInt64} (hr:r.length=4) (x:UInt64):∀m,(Kk r x m).length=4
 | 0=>hr
 | m+1=>Bs (B0w _ _)
def Xh (ws:List UInt64):Nat→List UInt64
 | 0=>J7 4
 | m+1=>Kk (Xh ws m) (E8 ws (ws.length-1-m)) 64
theorem Ks (ws:List UInt64):∀m,(Xh ws m).length=4
 | 0=>by simp[Xh]
 | m+1=>Qb (Ks ws m) _ _
def Ou (ws:List UInt64):List UInt64:=Xh ws ws.length
theorem Dt (ws:List UInt64):(Ou ws).length=4:=Ks _ _
theorem A3p (ws:List UInt64) (n g:Nat) (t:TypeId) (hn:ws.length=n) (hn8:n≤8) (w:World) (K:Bk w g t (E4 ws)):Calls Tryz.prog 182 #[.slice (some ⟨g,0,none⟩) n n] w fun e w'=>e=.returned (F8 (Ou ws))∧Below w.heap.size w w':=by
 obtain⟨W0,aD⟩:∃z,z=(w.alloc (Obj.cells (E4 (J7 4)).toArray 216)).alloc (Obj.cells (E4 (J7 4)).toArray 214):=⟨_,rfl⟩;have hL:W0=Q6 w [(216,E4 (J7 4)),(214,E4 (J7 4))]:=aD;have B0:Below w.heap.size w W0:=by rw[hL];exact H6 _ _
 have R0:Bk W0 w.heap.size 216 (E4 (J7 4)):=by rw[hL];exact E0 _ w 0 _ _ rfl
 have D0:Bk W0 (w.heap.size+1) 214 (E4 (Xh ws 0)):=by rw[hL];exact E0 _ w 1 _ _ rfl
 have K0:Bk W0 g t (E4 ws):=K.below B0 K.lt;have hg:=K.lt;clear hL K;go_enter Tryz.func182,Tryz.ntmps182;go_wp2_with fail;rw[←aD];clear aD;go_loopw [4] (fun x wr=>∃m:Nat,m≤n∧x=.int .i64 ((n:Int)-1-(m:Int))∧Bk wr g t (E4 ws)∧Bk wr (w.heap.size+1) 214 (E4 (Xh ws m))∧Bk wr w.heap.size 216 (E4 (J7 4))∧Below w.heap.size w wr) (fun x _=>(intOf x+1).toNat)
 case atStart=>exact ⟨0,by omega,by simp,K0,D0,R0,B0⟩
 case round=>
  clear K0 D0 R0 B0;obtain⟨m,hm,rfl,K,D,R,B⟩:=hrel;by_cases hlt:m<n
  ·obtain⟨q,hq⟩:∃q,q=n-1-m:=⟨_,rfl⟩;have aE:(n:Int)-1-(m:Int)=(q:Int):=by omega
   have aL:q<ws.length:=by omega
   rw[aE];obtain⟨r0,aB⟩:∃r,r=Xh ws m:=⟨_,rfl⟩;have aF:r0.length=4:=by rw[aB];exact Ks ws m
   obtain⟨x,hx⟩:∃x,x=E8 ws q:=⟨_,rfl⟩;have HN:Hid (Xh ws (m+1)=Kk r0 x 64):=Lib.hid (by rw[aB,hx,hq,←hn];rfl);rw[←aB]at D;have aM:=Lib.hid hx;clear aB hx;have D0:Bk wr (w.heap.size+1) 214 (E4 (Kk r0 x 0)):=D;have e2:(q:Int)=(n:Int)-1-(m:Int):=aE.symm;have E2:=Lib.hid e2;clear aE e2 D hq;go_wp2_with fail;go_loopw [5] (fun y wr=>∃k:Nat,k≤64∧y=.int .i64 (63-(k:Int))∧Bk wr g t (E4 ws)∧Bk wr (w.heap.size+1) 214 (E4 (Kk r0 x k))∧Bk wr w.heap.size 216 (E4 (J7 4))∧Below w.heap.size w wr) (fun y _=>(intOf y+1).toNat)
   case atStart=>exact ⟨0,by omega,rfl,K,D0,R,B⟩
   case round=>
    clear K D0 R B;obtain⟨k,hk,rfl,K,D,R,B⟩:=hrel;by_cases hlk:k<64
    ·obtain⟨s,hs⟩:∃s,s=63-k:=⟨_,rfl⟩;have es:63-(k:Int)=(s:Int):=by omega
     have aN:s<64:=by omega
     rw[es];obtain⟨r,hr⟩:∃r,r=Kk r0 x k:=⟨_,rfl⟩;have aO:r.length=4:=by rw[hr];exact Qb aF x k
     obtain⟨c0,aG⟩:∃c,c=x >>> UInt64.ofNat s &&& 1:=⟨_,rfl⟩;have HB:Hid (Kk r0 x (k+1)=Q7 (C9r r c0)):=Lib.hid (by rw[hr,aG,hs];rfl);have ES:=Lib.hid es;rw[←hr]at D;have k0:=K.at_ (P4 (l:=ws) (i:=q) aL);rw[←aM.out]at k0;clear hr hs es;rw[←A3s (f:=shW r c0) aO]at D;go_wp2_with fail;rw[←aG];clear k0 aG;go_loopw [27,6] (fun z c wr=>∃j:Nat,j≤4∧z=.int .i64 (j:Int)∧c=.int .u64 (C8 (shC r c0 j))∧Bk wr g t (E4 ws)∧Bk wr (w.heap.size+1) 214 (E4 (Hv (shW r c0) (E8 r) 4 j))∧Bk wr w.heap.size 216 (E4 (J7 4))∧Below w.heap.size w wr) (fun z _ _=>4-(intOf z).toNat)
     case atStart=>exact ⟨0,by omega,rfl,rfl,K,D,R,B⟩
     case round=>
      clear K D R B;obtain⟨j,hj,rfl,rfl,K,D,R,B⟩:=hrel;by_cases hlj:j<4
      ·have d0:=D.at_ (P4 (l:=Hv (shW r c0) (E8 r) 4 j) (i:=j) (by simpa using hlj));rw[B0u hlj,if_neg (by omega)]at d0;have f0:=D.frozen j;have D3:=D.set_ j (.int .u64 (C8 (E8 r j <<< (1:UInt64) ||| shC r c0 j)));rw[Ex,A1g (f:=shW r c0) (g:=E8 r) (x:=E8 r j <<< (1:UInt64) ||| shC r c0 j) hlj rfl]at D3;go_wp2_with fail;refine A0e 12 (fun W=>W.cell? ⟨w.heap.size+1,j,none⟩=some (.int .u64 (C8 (E8 r j)))) (by kernel_rfl) ?_;refine Jn (A:=?A1) [0,1,2,7,8] (by kernel_rfl) (by kernel_rfl) rfl (by kernel_rfl) (by kernel_rfl) (by kernel_rfl) (fun _=>d0) (h:=fun W=>?h1) (hr:=?r1);case h1=>
        simp only[pick,List.getElem?_cons_zero,List.getElem?_cons_succ];repeat (go_big_quiet_step (fail))
        refine wpQuiet_nil ?_;rfl
       refine A1y (A:=?A2) [3,9] (by kernel_rfl) (by kernel_rfl) rfl (by kernel_rfl) (by kernel_rfl) (by kernel_rfl) d0 (h:=fun W hW=>?h2) (hr:=?r2);case h2=>
        simp only[List.append_eq,List.nil_append,List.cons_append,pick,List.getElem?_cons_zero,List.getElem?_cons_succ];repeat (go_big_quiet_step (fail))
        refine wpQuiet_nil ?_;rfl
       refine Jn (A:=?A4) [4,5,6,10,11] (by kernel_rfl) (by kernel_rfl) rfl (by kernel_rfl) (by kernel_rfl) (by kernel_rfl) (fun _=>d0) (h:=fun W=>?h4) (hr:=?r4);case h4=>
        simp only[List.append_eq,List.nil_append,List.cons_append,pick,List.getElem?_cons_zero,List.getElem?_cons_succ];repeat (go_big_quiet_step (fail))
        refine wpQuiet_nil ?_;rfl
       refine Zs (by kernel_rfl) (by rfl) (by rfl) (fun Q' hQ'=>?_);dsimp only[E5];go_wp2_with fail;refine Jn (A:=?A3) [13] (by kernel_rfl) (by kernel_rfl) rfl (by kernel_rfl) (by kernel_rfl) (by kernel_rfl) (fun h=>absurd h (by decide)) (h:=fun W=>?h3) (hr:=?r3);case h3=>
        simp only[List.append_eq,List.nil_append,List.cons_append,pick,List.getElem?_cons_zero,List.getElem?_cons_succ];repeat (go_big_quiet_step (fail))
        refine wpQuiet_nil ?_;rfl
       refine B0e (by kernel_rfl) ?_;go_wp2_with fail;go_roundw;case rel=>exact ⟨j+1,by omega,by go_num,rfl,K.drew.far (by show g≠w.heap.size+1;omega) _,D3,R.drew.far (by show w.heap.size≠w.heap.size+1;omega) _,(B.trans (Below.refl _ _).drew).setCell (by simp) _⟩
       case measure=>simp[intOf];omega
      ·obtain rfl:j=4:=by omega
       have e4:((4:Nat):Int)=4:=rfl;rw[e4];clear e4;have hD:Bk wr (w.heap.size+1) 214 (E4 (C9r r c0)):=D;obtain⟨y,hy⟩:∃y,y=C9r r c0:=⟨_,rfl⟩;have aA:y.length=4:=by rw[hy];simp
       have aH:Hid (Kk r0 x (k+1)=Q7 y):=Lib.hid (by rw[HB.out,hy]);rw[←hy]at hD;have rk:=hD.row64 (n:=4) aA;clear D hy;go_wp2_with fail;refine (Nd y aA wr).mono ?_;rintro e w2 ⟨rfl,b2⟩;have K2:=K.below b2 K.lt;have D2:=hD.below b2 hD.lt;have R2:=R.below b2 R.lt;have B2:=C1 B b2 B.size;have aI:=Bs aA;have aJ:E7 w2 ⟨w.heap.size+1,0,none⟩ 4=true:=D2.can (by simp[aA]);have D3:=D2.puts (vs:=E4 (Q7 y)) (by simp[aA,aI]);rw[←aH.out]at D3;have K3:=K2.putFar (p:=⟨w.heap.size+1,0,none⟩) (by show g≠w.heap.size+1;omega) (E4 (Q7 y));have R3:=R2.putFar (p:=⟨w.heap.size+1,0,none⟩) (by show w.heap.size≠w.heap.size+1;omega) (E4 (Q7 y));have B3:=C0 (a:=⟨w.heap.size+1,0,none⟩) B2 (by simp) (E4 (Q7 y));rw[aH.out]at D3;go_wp2_with fail;go_roundw;case rel=>exact ⟨k+1,by omega,by rw[←ES.out];all_goals (simp<;>omega),K3,by rw[aH.out];exact D3,R3,B3⟩
       case measure=>have:=ES.out;simp[intOf]<;>omega
    ·obtain rfl:k=64:=by omega
     rw[←HN.out]at D;have e3:=E2.out;go_wp2_with fail;go_roundw;case rel=>exact ⟨m+1,by omega,by simp<;>omega,K,D,R,B⟩
     case measure=>simp[intOf];omega
  ·obtain rfl:m=n:=by omega
   have hD:Bk wr (w.heap.size+1) 214 (E4 (Ou ws)):=by have:=D;rw[←hn]at this;exact this
   obtain⟨ss,aC⟩:∃d,d=Ou ws:=⟨_,rfl⟩;have aK:ss.length=4:=by rw[aC];exact Dt ws
   have HS:Hid (Ou ws=ss):=Lib.hid aC.symm;rw[←aC]at hD;have rk:=hD.row64 (n:=4) aK;have aP:decide (0≤(m:Int)-1-(m:Int))=false:=decide_eq_false (by omega);have aJ:E7 wr ⟨w.heap.size,0,none⟩ 4=true:=R.can (by simp);clear D aC;go_wp2_with fail;refine bodyPost_ret (C7 rfl _ _ _ _ _ _ rfl (R.puts (vs:=E4 ss) (by simp[aK])) Cb rfl (by simp[Gg,aK])) rfl ⟨by rw[HS.out];rfl,C0 B (Nat.le_refl _) _⟩
def A1l (b:List UInt8):List UInt64:=Ou (wl b 8 64)
theorem Gk (b:List UInt8):(A1l b).length=4:=Dt _
@[go_sem ↓ high] theorem F3p:RB' 46:=BX' _
theorem A5g (b:List UInt8) (hb:b.length=64) (w:World):Calls Tryz.prog 178 #[A8 b] w fun e w'=>e=.returned (F8 (A1l b))∧Below w.heap.size w w':=by
 obtain⟨W0,aB⟩:∃z,z=(w.alloc (Obj.cells (c8 b).toArray 46)).alloc (Obj.cells (E4 (J7 4)).toArray 216):=⟨_,rfl⟩;have hL:W0=Q6 w [(46,c8 b),(216,E4 (J7 4))]:=aB;have B0:Below w.heap.size w W0:=by rw[hL];exact H6 _ _
 have K0:Bk W0 w.heap.size 46 (c8 b):=by rw[hL];exact E0 _ w 0 _ _ rfl
 have R0:Bk W0 (w.heap.size+1) 216 (E4 (J7 4)):=by rw[hL];exact E0 _ w 1 _ _ rfl
 clear hL;go_enter Tryz.func178,Tryz.ntmps178;go_wp2_with fail;rw[←aB];clear aB;refine (A5o b 64 8 w.heap.size _ hb rfl (by decide) W0 K0).mono ?_;rintro e w1 ⟨p,rfl,P1,hp,b1⟩;have R1:=R0.below b1 R0.lt;have B1:=C1 B0 b1 B0.size;obtain⟨ws,aA⟩:∃l,l=wl b 8 64:=⟨_,rfl⟩;have aC:ws.length=8:=by rw[aA];simp
 have HS:Hid (A1l b=Ou ws):=Lib.hid (by rw[aA];rfl);rw[←aA]at P1;clear aA;go_wp2_with fail;refine (A3p ws 8 p _ aC (by decide) w1 P1).mono ?_;rintro e w2 ⟨rfl,b2⟩;have R2:=R1.below b2 R1.lt;have B2:=C1 B1 b2 B1.size;have hl:=Dt ws;have aD:E7 w2 ⟨w.heap.size+1,0,none⟩ 4=true:=R2.can (by simp);go_wp2_with fail;refine bodyPost_ret (C7 rfl _ _ _ _ _ _ rfl (R2.puts (vs:=E4 (Ou ws)) (by simp[hl])) Cb rfl (by simp[Gg,hl])) rfl ⟨by rw[HS.out];rfl,C0 B2 (by simp) _⟩
section
theorem Mt:∀(xs ys:List UInt64),xs.length=ys.length→((List.range xs.length).all fun i=>xs.getD i 0==ys.getD i 0)=(xs==ys)
 | [],[],_=>rfl
 | x::xs,y::ys,h=>by
  have ih:=Mt xs ys (by simpa using h);rw[List.length_cons,List.range_succ_eq_map,List.all_cons,List.all_map];simp only[List.getD_cons_zero,Function.comp_def,List.getD_cons_succ,ih];simp[List.cons_beq_cons]
 | [],_::_,h=>by simp at h
 | _::_,[],h=>by simp at h
section
variable {P : Program} (w : World)
theorem Ik (d:Nat) (t e:TypeId) (n:Nat) (ht:P.underlying t=some (.array n e)) (he:P.underlying e=some (.int .u64)) (hsz:∀w,(sizeOf e).run P w=.ok 1 w)
 (xs ys:List UInt64) (hx:xs.length=n) (hy:ys.length=n) :
 (Op.equalIn (d+2) t (.agg (xs.map Us).toArray) (.agg (ys.map Us).toArray)).run P w=.ok (xs==ys) w:=by
 rw[←Mt xs ys (hx.trans hy.symm),hx,List.range_eq_range',Op.equalIn];simp only[Sem.run_bind,run_underlying ht,Result.andThen_ok,hsz,Std.Legacy.Range.forIn_eq_forIn_range',Std.Legacy.Range.size,Nat.sub_zero,Nat.add_sub_cancel,Nat.div_one];have hl:∀i∈List.range' 0 n 1,i<n:=fun i hi=>by simpa using (List.mem_range'_1.1 hi).2
 generalize List.range' 0 n 1=l at hl ⊢;induction l with
 | nil=>simp
 | cons i l ih=>
  have hi:i<n:=hl i (by simp);have px:(part e (xs.map Us).toArray (i*1)).run P w=.ok (Us (xs.getD i 0)) w:=by simp[part,isAgg,run_underlying he,List.getD,List.getElem?_eq_getElem (show i<xs.length by omega)]
  have py:(part e (ys.map Us).toArray (i*1)).run P w=.ok (Us (ys.getD i 0)) w:=by simp[part,isAgg,run_underlying he,List.getD,List.getElem?_eq_getElem (show i<ys.length by omega)]
  have pe:(Op.equalIn (d+1) e (Us (xs.getD i 0)) (Us (ys.getD i 0))).run P w=.ok (xs.getD i 0==ys.getD i 0) w:=by rw[Us,Us,run_equalIn_int w d e .u64 .u64 _ _ he];congr 1;rw[Bool.eq_iff_iff];simp only[beq_iff_eq];exact ⟨fun h=>B5v (by unfold Us;rw[h]),fun h=>by rw[h]⟩
  simp only[List.forIn_cons,Sem.run_bind,px,py,pe,Result.andThen_ok,List.all_cons];cases hb:(xs.getD i 0==ys.getD i 0)
  ·simp
  ·simp only[Bool.not_true,Bool.false_eq_true,if_false,Sem.run_pure,Result.andThen_ok,Bool.true_and];exact ih fun j hj=>hl j (by simp[hj])
end
theorem B2n (w:World):(sizeOf 104).run Tryz.prog w=.ok 1 w:=by kernel_rfl
theorem B5p (d:Nat) (w:World) (xs ys:List UInt64) (hx:xs.length=4) (hy:ys.length=4):(Op.equalIn (d+2) 214 (F8 xs) (F8 ys)).run Tryz.prog w=.ok (xs==ys) w:=
 Ik w d _ _ 4 Tryz.underlying214 Tryz.underlying104 B2n xs ys hx hy
theorem B6v (d:Nat) (w:World) (xs ys:List UInt64) (hx:xs.length=5) (hy:ys.length=5):(Op.equalIn (d+2) 156 (F8 xs) (F8 ys)).run Tryz.prog w=.ok (xs==ys) w:=
 Ik w d _ _ 5 Tryz.underlying156 Tryz.underlying104 B2n xs ys hx hy
theorem C8h:Tryz.prog.stoodInHeld 158=false:=by kernel_rfl
theorem C7f:Tryz.prog.stoodInHeld 160=false:=by kernel_rfl
theorem D4k (w:World):(sizeOf 156).run Tryz.prog w=.ok 5 w:=by kernel_rfl
theorem D3s (w:World):(sizeOf 158).run Tryz.prog w=.ok 5 w:=by kernel_rfl
theorem D5q (xs:List UInt64) (o:Nat) (w:World):(part 156 (E4 xs).toArray o).run Tryz.prog w=.ok (F8 ((xs.drop o).take 5)) w:=by
 simp[part,isAgg,run_underlying Tryz.underlying156,D4k,F8,E4,List.extract_eq_take_drop]
theorem Ye (xs:List UInt64) (o:Nat) (w:World):(part 158 (E4 xs).toArray o).run Tryz.prog w=.ok (F8 ((xs.drop o).take 5)) w:=by
 simp[part,isAgg,run_underlying Pe,D3s,F8,E4,List.extract_eq_take_drop]
def eqF (d:Nat) (xs ys:Array Value):List (Bool×TypeId×Nat)→Sem Bool
 | []=>pure true
 | (b,t,o)::fs=>
  if b=true then do
   let a ←part t xs o
   let b ←part t ys o
   let r ←Op.equalIn d t a b
   if (!r)=true then pure false else eqF d xs ys fs
  else eqF d xs ys fs
theorem Kv (d : Nat) (xs ys : Array Value) : ∀ fs : List Field, Op.eqFields d xs ys fs = eqF d xs ys (fs.map fun f => (decide (f.name ≠ "_"), f.type, f.offset))
 | []=>rfl
 | f::fs=>by
  simp only[Op.eqFields,List.map_cons,eqF,Kv d xs ys fs];by_cases h : f.name ≠ "_" <;> simp [h]
theorem D9f : ((Tryz.prog.fieldsOf 158).toList.map fun f => (decide (f.name ≠ "_"), f.type, f.offset)) = [(true, 156, 0)] := by kernel_rfl
theorem E0x : ((Tryz.prog.fieldsOf 160).toList.map fun f => (decide (f.name ≠ "_"), f.type, f.offset)) = [(true, 158, 0), (true, 158, 5), (true, 158, 10), (true, 158, 15)] := by kernel_rfl
theorem C8u:Tryz.prog.underlying 158=some (.struct (Tryz.prog.fieldsOf 158)):=by kernel_rfl
theorem D1b:Tryz.prog.underlying 160=some (.struct (Tryz.prog.fieldsOf 160)):=by kernel_rfl
theorem Ll (d:Nat) (w:World) (xs ys:List UInt64) (hx:xs.length=5) (hy:ys.length=5):(Op.equalIn (d+3) 158 (F8 xs) (F8 ys)).run Tryz.prog w=.ok (xs==ys) w:=by
 rw[F8,F8,run_equalIn_struct w (d+2) _ _ _ C8u C8h,Kv,D9f];simp only[eqF,if_true,Sem.run_bind,D5q,Result.andThen_ok,List.drop_zero];rw[List.take_of_length_le (by omega),List.take_of_length_le (by omega),B6v d w xs ys hx hy];cases h:xs==ys<;>simp
theorem D4x {xs ys:List UInt64} (hx:xs.length=20) (hy:ys.length=20):(xs==ys)=(xs.take 5==ys.take 5&&((xs.drop 5).take 5==(ys.drop 5).take 5&&((xs.drop 10).take 5==(ys.drop 10).take 5&&((xs.drop 15).take 5==(ys.drop 15).take 5)))):=by
 rw[Bool.eq_iff_iff];simp only[beq_iff_eq,Bool.and_eq_true];constructor
 ·rintro rfl;exact ⟨rfl,rfl,rfl,rfl⟩
 ·rintro ⟨h0,h1,h2,h3⟩;have e:∀l:List UInt64,l.length=20→l=l.take 5++((l.drop 5).take 5++((l.drop 10).take 5++(l.drop 15).take 5)):=by intro l hl;have a1:=(List.take_append_drop 5 l).symm;have a2:=(List.take_append_drop 5 (l.drop 5)).symm;have a3:=(List.take_append_drop 5 (l.drop 10)).symm;have a4:(l.drop 15).take 5=l.drop 15:=List.take_of_length_le (by simp;omega);rw[List.drop_drop]at a2 a3;rw[a4,←a3,←a2,←a1]
  rw[e xs hx,e ys hy,h0,h1,h2,h3]
theorem A0h (d:Nat) (w:World) (xs ys:List UInt64) (hx:xs.length=20) (hy:ys.length=20):(Op.equalIn (d+4) 160 (F8 xs) (F8 ys)).run Tryz.prog w=.ok (xs==ys) w:=by
 rw[F8,F8,run_equalIn_struct w (d+3) _ _ _ D1b C7f,Kv,E0x,D4x hx hy];simp only[eqF,if_true,Sem.run_bind,Ye,Result.andThen_ok,List.drop_zero];rw[Ll d w _ _ (by simp;omega) (by simp;omega)];cases h0:xs.take 5==ys.take 5
 ·simp
 simp only[Result.andThen_ok,Bool.not_true,Bool.false_eq_true,if_false,Sem.run_bind,Ye];rw[Ll d w _ _ (by simp;omega) (by simp;omega)];cases h1:(xs.drop 5).take 5==(ys.drop 5).take 5
 ·simp
 simp only[Result.andThen_ok,Bool.not_true,Bool.false_eq_true,if_false,Sem.run_bind,Ye];rw[Ll d w _ _ (by simp;omega) (by simp;omega)];cases h2:(xs.drop 10).take 5==(ys.drop 10).take 5
 ·simp
 simp only[Result.andThen_ok,Bool.not_true,Bool.false_eq_true,if_false,Sem.run_bind,Ye];rw[Ll d w _ _ (by simp;omega) (by simp;omega)];cases h3:(xs.drop 15).take 5==(ys.drop 15).take 5<;>simp
noncomputable def A8x (neg:Bool) (n:Nat) (w:World) (raw:Result Next) (a b:Value):Result Next:=
 match Zv a,Zv b with
 | some xs,some ys=>if xs.length=n∧ys.length=n then .ok (.value (.bool (neg != (xs==ys)))) w else raw
 | _,_=>raw
@[go_sem] theorem F0k (neg : Bool) (n : Nat) (w : World) (raw : Result Next) (xs ys : List UInt64) (hx : xs.length = n) (hy : ys.length = n) : A8x neg n w raw (F8 xs) (F8 ys) = .ok (.value (.bool (neg != (xs == ys)))) w := by
 unfold A8x;rw[A0c,A0c];exact if_pos ⟨hx,hy⟩
section
variable {P : Program} (w : World) (ρ : Operand → Value) (dst : Option Tmp) (ty : TypeId) (pos : String) (after : Array Edge) (guard : Option (Nat × Bool))
theorem C3a (t n:TypeId) (x y:Operand) (yt:TypeId) (hq:∀xs ys:List UInt64,xs.length=n→ys.length=n→(Op.equalIn 10000 t (F8 xs) (F8 ys)).run P w=.ok (xs==ys) w) (hg:P.eqGuardType P.depth t=false) :
 (execOp ρ { dst,op:=.binOp .eql t x y yt,type:=ty,pos,after,guard }).run P w=A8x false n w (F2 P ρ { dst,op:=.binOp .eql t x y yt,type:=ty,pos,after,guard } w) (ρ x) (ρ y):=by
 generalize hv:ρ x=a;generalize hz:ρ y=b;unfold A8x;split
 ·rename_i xs ys h1 h2
  replace h1:=Fa h1;replace h2:=Fa h2;split
  ·rename_i h
   have aA:(eqGuard .eql t x y a b).run P w=.ok () w:=by rw[h1,h2];exact run_eqGuard_agg (P:=P) w .eql t x y _ _ hg
   have e1:(binOp .eql t a b).run P w=.ok (.bool (xs==ys)) w:=by rw[h1,h2,F8,F8,run_eql_struct];exact congrArg (fun r:Result Bool=>r.andThen fun b w'=>Result.ok (Value.bool b) w') (hq xs ys h.1 h.2)
   simp only[execOp,hv,hz,Sem.run_bind,aA,Result.andThen_ok,e1,Sem.run_pure];simp
  ·rfl
 ·rfl
theorem C2m (t n:TypeId) (x y:Operand) (yt:TypeId) (hq:∀xs ys:List UInt64,xs.length=n→ys.length=n→(Op.equalIn 10000 t (F8 xs) (F8 ys)).run P w=.ok (xs==ys) w) (hg:P.eqGuardType P.depth t=false) :
 (execOp ρ { dst,op:=.binOp .neq t x y yt,type:=ty,pos,after,guard }).run P w=A8x true n w (F2 P ρ { dst,op:=.binOp .neq t x y yt,type:=ty,pos,after,guard } w) (ρ x) (ρ y):=by
 generalize hv:ρ x=a;generalize hz:ρ y=b;unfold A8x;split
 ·rename_i xs ys h1 h2
  replace h1:=Fa h1;replace h2:=Fa h2;split
  ·rename_i h
   have aA:(eqGuard .neq t x y a b).run P w=.ok () w:=by rw[h1,h2];exact run_eqGuard_agg (P:=P) w .neq t x y _ _ hg
   have e1:(binOp .neq t a b).run P w=.ok (.bool (!(xs==ys))) w:=by rw[h1,h2,F8,F8,run_neq_struct];exact congrArg (fun r:Result Bool=>r.andThen fun b w'=>Result.ok (Value.bool (!b)) w') (hq xs ys h.1 h.2)
   simp only[execOp,hv,hz,Sem.run_bind,aA,Result.andThen_ok,e1,Sem.run_pure];simp
  ·rfl
 ·rfl
end
section
variable (w : World) (ρ : Operand → Value) (dst : Option Tmp) (ty : TypeId) (pos : String) (after : Array Edge) (guard : Option (Nat × Bool))
@[go_sem ↓ high] theorem F6o (x y : Operand) (yt : TypeId) :
 (execOp ρ { dst,op:=.binOp .neq 214 x y yt,type:=ty,pos,after,guard }).run Tryz.prog w=A8x true 4 w (F2 Tryz.prog ρ { dst,op:=.binOp .neq 214 x y yt,type:=ty,pos,after,guard } w) (ρ x) (ρ y):=
 C2m w ρ dst ty pos after guard 214 4 x y yt (fun xs ys hx hy=>B5p 9998 w xs ys hx hy) (by kernel_rfl)
@[go_sem ↓ high] theorem F6y (x y : Operand) (yt : TypeId) :
 (execOp ρ { dst,op:=.binOp .eql 160 x y yt,type:=ty,pos,after,guard }).run Tryz.prog w=A8x false 20 w (F2 Tryz.prog ρ { dst,op:=.binOp .eql 160 x y yt,type:=ty,pos,after,guard } w) (ρ x) (ρ y):=
 C3a w ρ dst ty pos after guard 160 20 x y yt (fun xs ys hx hy=>A0h 9996 w xs ys hx hy) (by kernel_rfl)
end
structure Pn where
 x:List UInt64
 y:List UInt64
 z:List UInt64
 t:List UInt64
def Pn.row (p:Pn):List UInt64:=ptl p.x p.y p.z p.t
structure Pn.Ok (p : Pn) : Prop where
 x:p.x.length=5
 y:p.y.length=5
 z:p.z.length=5
 t:p.t.length=5
theorem Pn.Ok.row {p:Pn} (h:p.Ok):p.row.length=20:=B5e h.x h.y h.z h.t
theorem Bk.put64 {w:World} {g:Nat} {t:TypeId} {l m:List UInt64} {n:Nat} (K:Bk w g t (E4 l)) (hl:l.length=n) (hm:m.length=n):Bk (C4 w ⟨g,0,none⟩ (E4 m)) g t (E4 m):=K.puts (by simp[hl,hm])
theorem Bk.put8 {w:World} {g:Nat} {t:TypeId} {l m:List UInt8} {n:Nat} (K:Bk w g t (c8 l)) (hl:l.length=n) (hm:m.length=n):Bk (C4 w ⟨g,0,none⟩ (c8 m)) g t (c8 m):=K.puts (by simp[hl,hm])
theorem Bk.can64 {w:World} {g:Nat} {t:TypeId} {l:List UInt64} {n:Nat} (K:Bk w g t (E4 l)) (hl:l.length=n):E7 w ⟨g,0,none⟩ n=true:=K.can (by simp[hl])
theorem Bk.can8 {w:World} {g:Nat} {t:TypeId} {l:List UInt8} {n:Nat} (K:Bk w g t (c8 l)) (hl:l.length=n):E7 w ⟨g,0,none⟩ n=true:=K.can (by simp[hl])
theorem C9 {Q':Exit→Act→World→Prop} {a a':Act} {w:World} (h:Q' .normal a w) (e:a=a'):Q' .normal a' w:=e▸h
def E6 (Z:List Soup) (us:Nat→Value) (l:List Value):List Value:=Z.foldl (fun l z=>l.set z.dst (us z.at_)) l
theorem C2:∀(Z:List Soup) (us:Nat→Value) (l:List Value) (ds:List Deferred),L3 Z us ⟨l.toArray,ds⟩=⟨(E6 Z us l).toArray,ds⟩
 | [],_,_,_=>rfl
 | z::Z,us,l,ds=>by
  show L3 Z us (Act.put ⟨l.toArray,ds⟩ (some z.dst) (us z.at_))=⟨(E6 Z us (l.set z.dst (us z.at_))).toArray,ds⟩;rw[←C2 Z us (l.set z.dst (us z.at_)) ds];unfold Act.put;simp
theorem B6y {v:Value} {p lo hi:Nat} (h:∃b,Cu v=some b∧lo≤b∧b<hi) (e:v=.pointer (some ⟨p,0,none⟩)):lo≤p∧p<hi:=by
 obtain⟨b,h1,h2,h3⟩:=h;subst e;injection h1 with h1;subst h1;exact ⟨h2,h3⟩
end
theorem P4' {w V : World} {g : Nat} {T : TypeId} {l m : List UInt64} (n : Nat) (h : V = C4 w ⟨g, 0, none⟩ (E4 m)) (k : Bk w g T (E4 l)) (e : l.length = n) (e2 : m.length = n) : Bk V g T (E4 m) := h ▸ Bk.put64 k e e2
theorem C4' {w : World} {g : Nat} {T : TypeId} {l : List UInt64} (n : Nat) (k : Bk w g T (E4 l)) (e : l.length = n) : E7 w ⟨g, 0, none⟩ n = true := Bk.can64 k e
theorem FE' {Q' : Exit → Act → World → Prop} {a a' : Act} {w : World} (h : Q' .normal a w) (e : a = a' := by kernel_rfl) : Q' .normal a' w := e ▸ h
theorem MO' {P : Prop} (h : P := by
  repeat (first | exact FN' | refine FC' ⟨by first | exact P8 _ _ _ | exact za_mono _ _ _ _ | exact zs_mono _ _ _ _ | exact zp_mono _ _ _ | exact zb_mono _ _ _ | exact zk_mono _ _ _ | exact zl_mono _ _ _, ?_⟩)) : P := h
theorem RP' {P Q : Prop} (q : Q) (h : Q → P := by
  intro q
  rw [C2]
  dsimp only [E6, List.foldl, zv, za]
  simp only [List.set_cons_succ, List.set_cons_zero]
  exact q) : P := h q
theorem KC' {Q : World → Prop} {P : Prop} (c : ∀ W, Q W) (h : (∀ W, Q W) → P := by
  intro c o ho us W hW hp Q' hQ'
  obtain rfl := Option.some.inj ho
  clear hp ho
  rw [C2] at hQ' ⊢
  dsimp only [E5, E6, List.foldl, zv, za] at hQ' ⊢
  simp only [List.set_cons_succ, List.set_cons_zero]
  go_wp2_with fail
  refine (c W).mono ?_
  rintro e W2 ⟨rfl, b2⟩
  go_wp2_with fail
  exact C9 (hQ' _ _ b2 rfl (fun h => by cases h)) (by kernel_rfl)) : P := h c
theorem F8r {Q : World → Prop} {P : Prop} (c : ∀ W, Q W) (h : (∀ W, Q W) → P := by
  intro c o ho us W hW hp Q' hQ'
  obtain rfl := Option.some.inj ho
  have g0 := hp 0 _ rfl (by kernel_rfl)
  clear hp ho
  rw [C2] at hQ' ⊢
  dsimp only [E5, E6, List.foldl, zv, za] at hQ' ⊢
  simp only [List.set_cons_succ, List.set_cons_zero]
  dsimp only [zv] at g0
  rw [g0] at hQ' ⊢
  clear g0
  go_wp2_with fail
  refine (c W).mono ?_
  rintro e W2 ⟨rfl, b2⟩
  go_wp2_with fail
  exact C9 (hQ' _ _ b2 rfl (fun h => by cases h)) (by kernel_rfl)) : P := h c
theorem F8p {Q : World → Prop} {P : Prop} (c : ∀ W, Q W) (h : (∀ W, Q W) → P := by
  intro c o ho us W hW hp Q' hQ'
  obtain rfl := Option.some.inj ho
  have g1 := hp 1 _ rfl (by kernel_rfl)
  clear hp ho
  rw [C2] at hQ' ⊢
  dsimp only [E5, E6, List.foldl, zv, za] at hQ' ⊢
  simp only [List.set_cons_succ, List.set_cons_zero]
  dsimp only [zv] at g1
  rw [g1] at hQ' ⊢
  clear g1
  go_wp2_with fail
  refine (c W).mono ?_
  rintro e W2 ⟨rfl, b2⟩
  go_wp2_with fail
  exact C9 (hQ' _ _ b2 rfl (fun h => by cases h)) (by kernel_rfl)) : P := h c
theorem F8s {Q : World → Prop} {P : Prop} (c : ∀ W, Q W) (h : (∀ W, Q W) → P := by
  intro c o ho us W hW hp Q' hQ'
  obtain rfl := Option.some.inj ho
  have g2 := hp 2 _ rfl (by kernel_rfl)
  clear hp ho
  rw [C2] at hQ' ⊢
  dsimp only [E5, E6, List.foldl, zv, za] at hQ' ⊢
  simp only [List.set_cons_succ, List.set_cons_zero]
  dsimp only [zv] at g2
  rw [g2] at hQ' ⊢
  clear g2
  go_wp2_with fail
  refine (c W).mono ?_
  rintro e W2 ⟨rfl, b2⟩
  go_wp2_with fail
  exact C9 (hQ' _ _ b2 rfl (fun h => by cases h)) (by kernel_rfl)) : P := h c
theorem F8m {Q : World → Prop} {P : Prop} (c : ∀ W, Q W) (h : (∀ W, Q W) → P := by
  intro c o ho us W hW hp Q' hQ'
  obtain rfl := Option.some.inj ho
  have g0 := hp 0 _ rfl (by kernel_rfl)
  have g1 := hp 1 _ rfl (by kernel_rfl)
  clear hp ho
  rw [C2] at hQ' ⊢
  dsimp only [E5, E6, List.foldl, zv, za] at hQ' ⊢
  simp only [List.set_cons_succ, List.set_cons_zero]
  dsimp only [zv] at g0 g1
  rw [g0, g1] at hQ' ⊢
  clear g0 g1
  go_wp2_with fail
  refine (c W).mono ?_
  rintro e W2 ⟨rfl, b2⟩
  go_wp2_with fail
  exact C9 (hQ' _ _ b2 rfl (fun h => by cases h)) (by kernel_rfl)) : P := h c
theorem F7h {Q : World → Prop} {P : Prop} (c : ∀ W, Q W) (h : (∀ W, Q W) → P := by
  intro c o ho us W hW hp Q' hQ'
  obtain rfl := Option.some.inj ho
  have g0 := hp 0 _ rfl (by kernel_rfl)
  have g1 := hp 1 _ rfl (by kernel_rfl)
  have g2 := hp 2 _ rfl (by kernel_rfl)
  clear hp ho
  rw [C2] at hQ' ⊢
  dsimp only [E5, E6, List.foldl, zv, za] at hQ' ⊢
  simp only [List.set_cons_succ, List.set_cons_zero]
  dsimp only [zv] at g0 g1 g2
  rw [g0, g1, g2] at hQ' ⊢
  clear g0 g1 g2
  go_wp2_with fail
  refine (c W).mono ?_
  rintro e W2 ⟨rfl, b2⟩
  go_wp2_with fail
  exact C9 (hQ' _ _ b2 rfl (fun h => by cases h)) (by kernel_rfl)) : P := h c
end Go.Proofs.YtdfpoofbgjilgaaGreat
