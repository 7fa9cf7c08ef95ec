/- A part of the proof of AuditTells. -/
import Derived.Test.YtmllnpokbbabhaaGreatTan
import Derived.Test.YtmllnpokbbabhaaGreatTao
set_option linter.unusedVariables false
set_option linter.unusedSimpArgs false
set_option maxRecDepth 100000
set_option maxHeartbeats 40000000
namespace Go.Proofs.YtmllnpokbbabhaaGreat
open Go Go.RowKit Sh
section
def Te (P:Program) (md:Region.Mode) (ops:Array Oper) (Q:Exit→Act→World→Prop) (s:Nat) (C:World→Prop):Nat→Array Bool→Act→World→Prop
 | 0,listed,a,w=>Region.ready md ops listed=[]∧Q .normal a w
 | fuel+1,listed,a,w=>
  (Region.ready md ops listed=[]→Q .normal a w)∧
  ∀i∈Region.ready md ops listed,wpOp P ops Q i (fun a' w'=>((listed.setIfInBounds i true).getD s true=false→C w')∧Te P md ops Q s C fuel (listed.setIfInBounds i true) a' w') a w
theorem Ye {P:Program} {md:Region.Mode} {ops:Array Oper} {Q:Exit→Act→World→Prop} {s:Nat} {C:World→Prop}:∀(fuel:Nat) (listed:Array Bool) (a:Act) (w:World),Te P md ops Q s C fuel listed a w→wpAny P md ops Q fuel listed a w
 | 0,_,_,_,h=>h
 | fuel+1,_,_,_,h=>⟨h.1,fun i hi=>wpOp_mono (fun a' w' h'=>Ye fuel _ a' w' h'.2) (h.2 i hi)⟩
def Yc (md:Region.Mode) (ops:Array Oper) (s i:Nat):Prop:=∀os,ops[s]?=some os→∃e∈os.after,Region.binds md e=true∧e.on=i
theorem A2b {P:Program} {md:Region.Mode} {ops:Array Oper} {i s:Nat} {C S:World→Prop} {oi:Oper} {v:Value} {Q:Exit→Act→World→Prop} (hi:ops[i]?=some oi) (hsel:∀(j:Nat) (o:Oper) cs b,ops[j]?=some o→o.op≠.select cs b) (hQ:∀c a a' w,Q (.panic c) a w→Q (.panic c) a' w) (his:i≠s) :
 ∀(fuel:Nat) (listed:Array Bool) (a:Act) (w:World),
  (∀j oj,ops[j]?=some oj→j≠i→listed.getD j true=false→(∀e∈oj.after,Region.binds md e=true→e.on≠i)→oi.apart ops oj=true)→
  i∈Region.ready md ops listed→V7 P ops S oi v a→S w→(listed.getD s true=false→C w)→
  ((∀w,S w)∨((∀w,C w→S w)∧listed.getD s true=false∧Yc md ops s i))→
  Te P md ops Q s C fuel (listed.setIfInBounds i true) (a.put oi.dst v) w→Te P md ops Q s C (fuel+1) listed a w
 | fuel,listed,a,w,hfree,hr,hy,hS,hK,hC,H=>by
  refine ⟨fun h=>(by rw[h]at hr;cases hr),fun j hj=>?_⟩;by_cases hji:j=i
  ·subst hji;exact hy.op hi hS ⟨fun h=>hK (by rwa [getD_set_ne true his]at h),H⟩
  ·cases fuel with
   | zero=>have:=ready_mono hj hji;rw[H.1]at this;cases this
   | succ fuel=>
    obtain⟨aA,oj,aC,aD⟩:=mem_ready.1 hj;have aG:=(mem_ready.1 hr).1;have aB:∀e∈oj.after,Region.binds md e=true→e.on≠i:=fun e he hb heq=>by
     have h1:=aD e he hb;rw[heq,getD_both aG]at h1;cases h1
    have aH:(listed.getD s true=false∧Yc md ops s i)→j≠s:=fun h e=>by
     subst e;obtain⟨e,he,hb,ho⟩:=h.2 oj aC;exact aB e he hb ho
    have aE:∀w',(((listed.setIfInBounds i true).setIfInBounds j true).getD s true=false→C w')→((listed.setIfInBounds j true).getD s true=false→C w'):=fun w' h1 h2=>h1 (by
     rw[←Array.setIfInBounds_comm _ _ hji,getD_set_ne true his];exact h2)
    have aF:(∀w,S w)∨((∀w,C w→S w)∧(listed.setIfInBounds j true).getD s true=false∧Yc md ops s i):=by
     rcases hC with h | ⟨h1,h2,h3⟩
     ·exact .inl h
     ·exact .inr ⟨h1,by rw[getD_set_ne true (aH ⟨h2,h3⟩)];exact h2,h3⟩
    have aI:∀w',((listed.setIfInBounds j true).getD s true=false→C w')→S w':=fun w' h=>by
     rcases aF with h1 | ⟨h1,h2,_⟩
     ·exact h1 w'
     ·exact h1 w' (h h2)
    refine wpOp_mono (fun a' w' h3=>⟨aE w' h3.2.1,A2b hi hsel hQ his fuel (listed.setIfInBounds j true) a' w' (fun k ok hk hki hkun hno=>?_) (ready_mono hr (Ne.symm hji)) h3.1 (aI w' (aE w' h3.2.1)) (aE w' h3.2.1) aF ?_⟩) (Yh aC (hfree j oj aC hji aA aB) (fun cs b=>hsel i oi cs b hi) (fun cs b=>hsel j oj cs b aC) hQ hy (H.2 j (ready_mono hj hji)))
    ·refine hfree k ok hk hki ?_ hno;by_cases hjk:j=k
     ·subst hjk;exact aA
     ·rw[getD_set_ne true hjk]at hkun;exact hkun
    ·rw[Array.setIfInBounds_comm _ _ hji];exact h3.2.2
section
variable {P : Program} {md : Region.Mode} {l : List Oper} {Q : Exit → Act → World → Prop} {s : Nat} {C S : World → Prop} {a : Act} {w : World}
theorem Sr:∀(qs:List Nat) (lq:List Oper) (fuel:Nat) (listed:Array Bool) (a:Act) (w:World),pick l qs=lq→lq.length=qs.length→Region.noSelect l.toArray=true→(Aw md l.toArray listed qs).2=true→S w→(listed.getD s true=false→C w)→
 (∀i∈qs,i≠s)→((∀w,S w)∨((∀w,C w→S w)∧listed.getD s true=false∧∀i∈qs,Yc md l.toArray s i))→(∀c a a' w,Q (.panic c) a w→Q (.panic c) a' w)→
 Tn P l.toArray S (fun a'=>Te P md l.toArray Q s C fuel (Aw md l.toArray listed qs).1 a' w) lq a→Te P md l.toArray Q s C (fuel+qs.length) listed a w
 | [],lq,fuel,listed,a,w,hp,_,_,hB,hS,_,_,_,_,h=>by subst hp;exact h
 | i::is,lq,fuel,listed,a,w,hp,hl,hs,hB,hS,hK,hne,hC,hQ,h=>by
  simp only[Aw,Bool.and_eq_true]at hB;obtain⟨⟨hr,hf⟩,hB⟩:=hB;simp only[pick]at hp;cases hi:l[i]? with
  | none=>rw[hi]at hp;subst hp;simp at hl
  | some o=>
   rw[hi]at hp;subst hp;obtain⟨v,hy,h⟩:=h;have aB:l.toArray[i]?=some o:=by simpa using hi
   have aA:i≠s:=hne i (by simp);refine A2b aB (Region.noSelect_spec hs) hQ aA _ _ _ _ (Region.free_spec aB hf) (by simpa using hr) hy hS hK ?_ (Sr is _ fuel _ _ w rfl (by simpa using hl) hs hB hS (fun h=>hK (by rwa [getD_set_ne true aA]at h)) (fun k hk=>hne k (by simp[hk])) ?_ hQ h)
   ·rcases hC with h | ⟨h1,h2,h3⟩
    ·exact .inl h
    ·exact .inr ⟨h1,h2,h3 i (by simp)⟩
   ·rcases hC with h | ⟨h1,h2,h3⟩
    ·exact .inl h
    ·exact .inr ⟨h1,by rw[getD_set_ne true aA];exact h2,fun k hk=>h3 k (by simp[hk])⟩
def Ds (P:Program) (l:List Oper) (Q:Exit→Act→World→Prop) (s:Nat) (C:World→Prop) (done:List Nat) (a:Act) (w:World):Prop:=
 Te P .any l.toArray (Wn Q) s C (l.length-done.length) (F2 l.length done) a w
theorem A3k (s:Nat) (C:World→Prop) {id:Nat} (hm:P.follows .mixedOrders=true) (h:Ds P l Q s C [] a w.drew):(Code.region id l.toArray true).wp P Q a w:=by
 refine Code.wp_mono Vj (wp_region_any hm (Ye (s:=s) (C:=C) _ _ _ _ ?_));have e:l.toArray.size=l.length:=by simp
 rw[e];exact h
theorem A7q {done:List Nat} (qs:List Nat) {lq:List Oper} (hs:Region.noSelect l.toArray=true) (h1:(Aw .any l.toArray (F2 l.length done) qs).2=true)
 (hq:pick l qs=lq) (hn:(lq.length==qs.length&&decide (done.length+qs.length≤l.length))=true) (hd:Dh a.tmps.size lq=true) (hS:S w) (hK:(F2 l.length done).getD s true=false→C w)
 (hne:∀i∈qs,i≠s) (hC:(∀w,S w)∨((∀w,C w→S w)∧(F2 l.length done).getD s true=false∧∀i∈qs,Yc .any l.toArray s i))
 (A:Act) (h:∀W,S W→wpQuiet P l.toArray (fun w'=>w'=W) (fun a'=>a'=A) lq a) (hr:Ds P l Q s C (done++qs) A w):Ds P l Q s C done a w:=by
 simp only[Bool.and_eq_true,beq_iff_eq,decide_eq_true_eq]at hn;unfold Ds at *;rw[show l.length-done.length=(l.length-(done++qs).length)+qs.length by simp;omega];refine Sr qs lq _ _ a w hq hn.1 hs h1 hS hK hne hC (fun _ _ _ _ h=>h) (Fy (fun a' ha=>?_) lq a (Ce w hS lq a hd h));subst ha;rw[Jk];unfold F2 at hr ⊢;rw[List.foldl_append]at hr;exact hr
def A8u (l:List Oper) (s i:Nat):Bool:=match l[s]? with | some os=>os.after.any (fun e=>Region.binds .any e&&e.on==i)&&i != s | none=>false
theorem A6b {i:Nat} (h:A8u l s i=true):Yc .any l.toArray s i∧i≠s:=by
 unfold A8u at h;cases hl:l[s]? with
 | none=>rw[hl]at h;cases h
 | some os=>
  rw[hl]at h;simp only[Bool.and_eq_true,bne_iff_ne,ne_eq,Array.any_eq_true']at h;refine ⟨fun o ho=>?_,h.2⟩;have:o=os:=by
   have h2:l[s]?=some o:=by simpa using ho
   rw[hl]at h2;injection h2 with h2;exact h2.symm
  subst this;obtain⟨e,he,hb,hx⟩:=h.1;exact ⟨e,he,hb,by simpa using hx⟩
theorem A3i {done:List Nat} (qs:List Nat) {lq:List Oper} (hs:Region.noSelect l.toArray=true) (h1:(Aw .any l.toArray (F2 l.length done) qs).2=true)
 (hq:pick l qs=lq) (hn:(lq.length==qs.length&&decide (done.length+qs.length≤l.length))=true) (hd:Dh a.tmps.size lq=true)
 (hw:(qs.all (A8u l s)&&((F2 l.length done).getD s true==false))=true) (hS:C w)
 (A:Act) (h:∀W,C W→wpQuiet P l.toArray (fun w'=>w'=W) (fun a'=>a'=A) lq a) (hr:Ds P l Q s C (done++qs) A w):Ds P l Q s C done a w:=by
 simp only[Bool.and_eq_true,List.all_eq_true,beq_iff_eq]at hw;exact A7q (S:=C) qs hs h1 hq hn hd hS (fun _=>hS) (fun i hi=>(A6b (hw.1 i hi)).2) (.inr ⟨fun _ h=>h,hw.2,fun i hi=>(A6b (hw.1 i hi)).1⟩) A h hr
theorem Lk {done:List Nat} (qs:List Nat) {lq:List Oper} (hs:Region.noSelect l.toArray=true) (h1:(Aw .any l.toArray (F2 l.length done) qs).2=true)
 (hq:pick l qs=lq) (hn:(lq.length==qs.length&&decide (done.length+qs.length≤l.length))=true) (hd:Dh a.tmps.size lq=true)
 (hw:qs.all (fun i=>i != s)=true) (hK:(F2 l.length done).getD s true=false→C w)
 (A:Act) (h:∀W,wpQuiet P l.toArray (fun w'=>w'=W) (fun a'=>a'=A) lq a) (hr:Ds P l Q s C (done++qs) A w):Ds P l Q s C done a w:=
 A7q (S:=fun _=>True) qs hs h1 hq hn hd trivial hK (fun i hi=>by simpa using (List.all_eq_true.1 hw) i hi) (.inl fun _=>trivial) A (fun W _=>h W) hr
theorem A1o {done:List Nat} {o:Oper} (hr:Z8 l done [s]=true) (hi:l[s]?=some o) (hg:Region.wanted o (yielded l.toArray a.tmps)=true)
 (h:∀Q':Exit→Act→World→Prop,(∀a' w',Ds P l Q s C (done++[s]) a' w'→Q' .normal a' w')→wpList P #[C6 o] Q' [C6 o] a w):Ds P l Q s C done a w:=by
 simp only[Z8,Bool.and_eq_true,beq_iff_eq,decide_eq_true_eq]at hr;unfold Ds;rw[show l.length-done.length=(l.length-done.length-1)+1 by omega];refine ⟨fun h0=>(by rw[hr.1]at h0;cases h0),fun j hj=>?_⟩;rw[hr.1]at hj;obtain rfl:j=s:=by simpa using hj
 have h1:=h (fun e a' w'=>e=.normal∧Ds P l Q j C (done++[j]) a' w') (fun a' w' h1=>⟨rfl,h1⟩);unfold wpList at h1;rw[if_pos (by simp[Region.wanted,C6])]at h1;unfold wpOp;have aA:l.toArray[j]?=some o:=by simpa using hi
 simp only[aA];rw[if_pos hg];rcases h1 with h1 | ⟨_,a,w,h2,_⟩
 ·refine .inl (Qj (fun a' w' h2=>⟨fun hx=>?_,?_⟩) (fun e a' w' hne h2=>(hne h2.1).elim) (C1n h1))
  ·by_cases hlt:j<(F2 l.length done).size
   ·simp[hlt]at hx
   ·simp[hlt]at hx
  ·have h3:=h2.2;unfold Ds F2 at h3;rw[List.foldl_append]at h3;rw[show l.length-done.length-1=l.length-(done++[j]).length by simp;omega];exact h3
 ·cases h2
theorem B2y {done:List Nat} (hn:(l.length==done.length&&(Region.ready .any l.toArray (F2 l.length done)==[]))=true) (h:Q .normal a w):Ds P l Q s C done a w:=by
 simp only[Bool.and_eq_true,beq_iff_eq]at hn;unfold Ds;rw[show l.length-done.length=0 by omega];exact And.intro hn.2 h
end
end
def C3i (a b:List UInt64):Nat→UInt64
 | 0=>0
 | i+1=>A2j (E0 a i) (E0 b i) (C3i a b i)
def B1v (a b:List UInt64) (j:Nat):UInt64:=Yd (E0 a j) (E0 b j) (C3i a b j)
def D6k (a b:List UInt64):List UInt64:=Jh (B1v a b) (E0 a) 4 4
@[simp, go_sem] theorem B3a (a b : List UInt64) : (D6k a b).length = 4 := Qk _ _ _ _
theorem C0v (a b:List UInt64):∀i,(C3i a b i).toNat≤1
 | 0=>by show (0:UInt64).toNat≤1;decide
 | i+1=>D3m _ _ _ (C0v a b i)
def C4l (a b:List UInt64):List UInt64:=U4 (D6k a b)
theorem Yx (a b:List UInt64):(C4l a b).length=4:=Ct (B3a a b)
theorem D1r (a b:List UInt64) (ha:a.length=4) (hb:b.length=4) (w:World):Calls Tryz.prog 159 #[H7 a,H7 b] w fun e w'=>e=.returned (H7 (C4l a b))∧Below w.heap.size w w':=by
 obtain⟨W0,aB⟩:=D9 (((w.alloc (Obj.cells (E4 a).toArray 247)).alloc (Obj.cells (E4 b).toArray 247)).alloc (Obj.cells (E4 (T9 4)).toArray 247));have hL:W0=Z0 w [(247,E4 a),(247,E4 b),(247,E4 (T9 4))]:=aB;have B0:=BL' hL;have K0:=KZ' hL rfl;have L0:=KL' 1 hL rfl;have R0:=KL' 2 hL rfl;clear hL;go_enter Tryz.func159,Tryz.ntmps159;go_wp2_with fail;rw[←aB];clear aB;rw[←A6o (f:=B1v a b) ha]at K0;go_loopw [7,5] (fun t q wr=>∃i:Nat,i≤4∧t=.int .i64 (i:Int)∧q=.int .u64 (E6 (C3i a b i))∧Bk wr w.heap.size 247 (E4 (Jh (B1v a b) (E0 a) 4 i))∧Bk wr (w.heap.size+1) 247 (E4 b)∧Bk wr (w.heap.size+2) 247 (E4 (T9 4))∧Below w.heap.size w wr) (fun t _ _=>4-(intOf t).toNat)
 case atStart=>exact ⟨0,by omega,rfl,rfl,K0,L0,R0,B0⟩
 case round=>
  clear K0 L0 R0 B0;obtain⟨i,hi,rfl,rfl,K,L,R,B⟩:=hrel;by_cases hlt:i<4
  ·have k0:=K.at_ (Q1 (l:=Jh (B1v a b) (E0 a) 4 i) (i:=i) (by simpa using hlt));rw[B5o hlt,if_neg (by omega)]at k0;have l0:=L.at_ (Q1 (l:=b) (i:=i) (by omega));have f0:=K.frozen i;have aG:=C0v a b i;have K3:=K.set_ i (.int .u64 (E6 (Yd (E0 a i) (E0 b i) (C3i a b i))));rw[Fv,A1l (f:=B1v a b) (g:=E0 a) (x:=Yd (E0 a i) (E0 b i) (C3i a b i)) hlt rfl]at K3;go_wp2_with fail;refine A3k 16 (fun W=>W.cell? ⟨w.heap.size,i,none⟩=some (.int .u64 (E6 (E0 a i)))∧W.cell? ⟨w.heap.size+1,i,none⟩=some (.int .u64 (E6 (E0 b i)))) (by kernel_rfl) ?_;refine A3i (A:=?A1) [0,1,2,3,4,5,6,7,8] (by kernel_rfl) (by kernel_rfl) rfl (by kernel_rfl) (by kernel_rfl) (by kernel_rfl) ⟨k0,l0⟩ (h:=fun W hW=>?h1) (hr:=?r1);case h1=>obtain⟨m0,m1⟩:=hW;exact Fa
   refine Lk (A:=?A2) [9,10,11,12,13,14,15] (by kernel_rfl) (by kernel_rfl) rfl (by kernel_rfl) (by kernel_rfl) (by kernel_rfl) (fun _=>⟨k0,l0⟩) (h:=fun W=>?h2) (hr:=?r2);case h2=>
    simp only[List.append_eq,Nw,pick,Se];repeat (go_big_quiet_step (fail))
    refine wpQuiet_nil ?_;rfl
   refine A1o (by kernel_rfl) (by rfl) (by rfl) (fun Q' hQ'=>?_);dsimp only[C6];go_wp2_with fail;refine Lk (A:=?A3) [17] (by kernel_rfl) (by kernel_rfl) rfl (by kernel_rfl) (by kernel_rfl) (by kernel_rfl) (fun h=>absurd h (by decide)) (h:=fun W=>?h3) (hr:=?r3);case h3=>
    simp only[List.append_eq,Nw,pick,Se];repeat (go_big_quiet_step (fail))
    refine wpQuiet_nil ?_;rfl
   refine B2y (by kernel_rfl) ?_;go_wp2_with fail;go_roundw;case rel=>exact ⟨i+1,by omega,by go_num,rfl,K3,L.far (by show w.heap.size+1≠w.heap.size;omega) _,R.far (by show w.heap.size+2≠w.heap.size;omega) _,(B.trans (Below.refl _ _).drew).setCell (by simp) _⟩
   case measure=>simp[intOf];omega
  ·obtain rfl:i=4:=by omega
   have e5:((4:Nat):Int)=4:=rfl;rw[e5];clear e5;have hK:Bk wr w.heap.size 247 (E4 (D6k a b)):=K;obtain⟨ss,aA⟩:=D9 (D6k a b);have aC:ss.length=4:=by rw[aA];simp
   have aD:C4l a b=U4 ss:=by rw[aA,C4l]
   have HS:=Lib.hid aD;clear aD;rw[←aA]at hK;have rk:=hK.row64 (n:=4) aC;clear K aA;go_wp2_with fail;refine (Pa ss aC wr).mono ?_;rintro e w2 ⟨rfl,b2⟩;have R2:=R.bl b2;have B2:=X4 B b2;have aE:=Ct aC;have aF:=Nn 4 R2 (by simp);go_wp2_with fail;refine bodyPost_ret (C7 rfl _ _ _ _ _ _ rfl (R2.puts (vs:=E4 (U4 ss)) (by simp[aE])) Dv rfl (by simp[Jm,aE])) rfl ⟨by rw[HS.out];rfl,C0 B2 (by show w.heap.size≤w.heap.size+2;omega) _⟩
theorem A6e (b:List UInt8) (n m g:Nat) (t:TypeId) (hb:b.length=n) (hn:n=8*m) (hm:m≤8) (w:World) (K:Bk w g t (c8 b)):Calls Tryz.prog 202 #[.slice (some ⟨g,0,none⟩) n n] w fun e w'=>∃p,e=.returned (.slice (some ⟨p,0,none⟩) m m)∧Bk w' p 99 (E4 (wl b m n))∧w.heap.size≤p∧Below w.heap.size w w':=by
 have hd:(n:Int) / 8=(m:Int):=by omega
 obtain⟨W0,aA⟩:=D9 (w.alloc (Obj.cells (E4 (T9 m)).toArray 99));have D0:=KN' aA;have K0:=KA' aA K;have B0:=BA' aA;have hg:=K.lt;go_enter Tryz.func202,Tryz.ntmps202;go_wp2_with (refine A4r rfl _ _ rfl m _ _ rfl rfl (by omega) ?_);rw[←aA];clear aA K;go_wp2_with fail;go_loopw [12] (fun x wr=>∃i:Nat,i≤n∧x=.int .i64 (i:Int)∧Bk wr g t (c8 b)∧Bk wr w.heap.size 99 (E4 (wl b m i))∧Below w.heap.size w wr) (fun x _=>n-(intOf x).toNat)
 case atStart=>exact ⟨0,by omega,rfl,K0,D0,B0⟩
 case round=>
  clear K0 D0 B0;obtain⟨i,hi,rfl,K,D,B⟩:=hrel;by_cases hlt:i<n
  ·have aD:(i:Int) / 8=((i / 8:Nat):Int):=by omega
   have aE:(i:Int) % 8=((i % 8:Nat):Int):=by omega
   have hx:wl b m (i+1)=(wl b m i).set (i / 8) (E0 (wl b m i) (i / 8) ||| (g8 b i).toUInt64 <<< UInt64.ofNat (8*(i % 8))):=rfl;have k0:=K.at_ (Nh (l:=b) (i:=i) (by omega));have d0:=D.at_ (Q1 (l:=wl b m i) (i:=i / 8) (by simp;omega));have f0:=D.frozen (i / 8);have aF:i / 8<m:=by omega
   have aG:i % 8<8:=by omega
   have D3:=D.set_ (i / 8) (.int .u64 (E6 (E0 (wl b m i) (i / 8) ||| (g8 b i).toUInt64 <<< UInt64.ofNat (8*(i % 8)))));rw[Fv,←hx]at D3;have HX:=Lib.hid hx;clear hx;generalize i / 8=qq at *;generalize i % 8=rr at *;obtain⟨ss,aB⟩:=D9 (8*rr);have h8:8*(rr:Int)=(ss:Int):=by omega
   have aC:ss<64:=by omega
   rw[←aB]at D3;clear HX aB;go_wp2_with fail;go_roundw;case rel=>exact ⟨i+1,by omega,by go_num,K.far (by show g≠w.heap.size;omega) _,D3,B.setCell (by simp) _⟩
   case measure=>simp[intOf];omega
  ·obtain rfl:i=n:=by omega
   go_wp2_with fail;go_ret;exact ⟨_,rfl,D,Nat.le_refl _,B⟩
@[go_sem ↓ high] theorem E7x (x : UInt64) (k : IntKind) : Op.shift .shl .u64 (E6 x) k 1 = pure (.int .u64 (E6 (x <<< 1))) := A8m x k 1 (by decide)
def shC (r:List UInt64) (c:UInt64):Nat→UInt64
 | 0=>c
 | j+1=>E0 r j >>> (63:UInt64)
def shW (r:List UInt64) (c:UInt64) (j:Nat):UInt64:=E0 r j <<< (1:UInt64) ||| shC r c j
def D1v (r:List UInt64) (c:UInt64):List UInt64:=Jh (shW r c) (E0 r) 4 4
@[simp, go_sem] theorem B2t (r : List UInt64) (c : UInt64) : (D1v r c).length = 4 := Qk _ _ _ _
def Ml (r:List UInt64) (x:UInt64):Nat→List UInt64
 | 0=>r
 | m+1=>U4 (D1v (Ml r x m) (x >>> UInt64.ofNat (63-m) &&& 1))
theorem Sy {r:List UInt64} (hr:r.length=4) (x:UInt64):∀m,(Ml r x m).length=4
 | 0=>hr
 | m+1=>Ct (B2t _ _)
def A1m (ws:List UInt64):Nat→List UInt64
 | 0=>T9 4
 | m+1=>Ml (A1m ws m) (E0 ws (ws.length-1-m)) 64
theorem Nc (ws:List UInt64):∀m,(A1m ws m).length=4
 | 0=>by simp[A1m]
 | m+1=>Sy (Nc ws m) _ _
def Pf (ws:List UInt64):List UInt64:=A1m ws ws.length
theorem Er (ws:List UInt64):(Pf ws).length=4:=Nc _ _
theorem A7g (ws:List UInt64) (n g:Nat) (t:TypeId) (hn:ws.length=n) (hn8:n≤8) (w:World) (K:Bk w g t (E4 ws)):Calls Tryz.prog 198 #[.slice (some ⟨g,0,none⟩) n n] w fun e w'=>e=.returned (H7 (Pf ws))∧Below w.heap.size w w':=by
 obtain⟨W0,aD⟩:=D9 ((w.alloc (Obj.cells (E4 (T9 4)).toArray 247)).alloc (Obj.cells (E4 (T9 4)).toArray 245));have hL:W0=Z0 w [(247,E4 (T9 4)),(245,E4 (T9 4))]:=aD;have B0:=BL' hL;have R0:=KZ' hL rfl;have D0:=KL' 1 hL rfl;have K0:=K.bl B0;have hg:=K.lt;clear hL K;go_enter Tryz.func198,Tryz.ntmps198;go_wp2_with fail;rw[←aD];clear aD;go_loopw [4] (fun x wr=>∃m:Nat,m≤n∧x=.int .i64 ((n:Int)-1-(m:Int))∧Bk wr g t (E4 ws)∧Bk wr (w.heap.size+1) 245 (E4 (A1m ws m))∧Bk wr w.heap.size 247 (E4 (T9 4))∧Below w.heap.size w wr) (fun x _=>(intOf x+1).toNat)
 case atStart=>exact ⟨0,by omega,by simp,K0,D0,R0,B0⟩
 case round=>
  clear K0 D0 R0 B0;obtain⟨m,hm,rfl,K,D,R,B⟩:=hrel;by_cases hlt:m<n
  ·obtain⟨q,hq⟩:=D9 (n-1-m);have aE:(n:Int)-1-(m:Int)=(q:Int):=by omega
   have aL:q<ws.length:=by omega
   rw[aE];obtain⟨r0,aB⟩:=D9 (A1m ws m);have aF:r0.length=4:=by rw[aB];exact Nc ws m
   obtain⟨x,hx⟩:=D9 (E0 ws q);have HN:Hid (A1m ws (m+1)=Ml r0 x 64):=Lib.hid (by rw[aB,hx,hq,←hn];rfl);rw[←aB]at D;have aM:=Lib.hid hx;clear aB hx;have D0:Bk wr (w.heap.size+1) 245 (E4 (Ml r0 x 0)):=D;have e2:(q:Int)=(n:Int)-1-(m:Int):=aE.symm;have E2:=Lib.hid e2;clear aE e2 D hq;go_wp2_with fail;go_loopw [5] (fun y wr=>∃k:Nat,k≤64∧y=.int .i64 (63-(k:Int))∧Bk wr g t (E4 ws)∧Bk wr (w.heap.size+1) 245 (E4 (Ml r0 x k))∧Bk wr w.heap.size 247 (E4 (T9 4))∧Below w.heap.size w wr) (fun y _=>(intOf y+1).toNat)
   case atStart=>exact ⟨0,by omega,rfl,K,D0,R,B⟩
   case round=>
    clear K D0 R B;obtain⟨k,hk,rfl,K,D,R,B⟩:=hrel;by_cases hlk:k<64
    ·obtain⟨s,hs⟩:=D9 (63-k);have es:63-(k:Int)=(s:Int):=by omega
     have aN:s<64:=by omega
     rw[es];obtain⟨r,hr⟩:=D9 (Ml r0 x k);have aO:r.length=4:=by rw[hr];exact Sy aF x k
     obtain⟨c0,aG⟩:=D9 (x >>> UInt64.ofNat s &&& 1);have HB:Hid (Ml r0 x (k+1)=U4 (D1v r c0)):=Lib.hid (by rw[hr,aG,hs];rfl);have ES:=Lib.hid es;rw[←hr]at D;have k0:=K.at_ (Q1 (l:=ws) (i:=q) aL);rw[←aM.out]at k0;clear hr hs es;rw[←A6o (f:=shW r c0) aO]at D;go_wp2_with fail;rw[←aG];clear k0 aG;go_loopw [27,6] (fun z c wr=>∃j:Nat,j≤4∧z=.int .i64 (j:Int)∧c=.int .u64 (E6 (shC r c0 j))∧Bk wr g t (E4 ws)∧Bk wr (w.heap.size+1) 245 (E4 (Jh (shW r c0) (E0 r) 4 j))∧Bk wr w.heap.size 247 (E4 (T9 4))∧Below w.heap.size w wr) (fun z _ _=>4-(intOf z).toNat)
     case atStart=>exact ⟨0,by omega,rfl,rfl,K,D,R,B⟩
     case round=>
      clear K D R B;obtain⟨j,hj,rfl,rfl,K,D,R,B⟩:=hrel;by_cases hlj:j<4
      ·have d0:=D.at_ (Q1 (l:=Jh (shW r c0) (E0 r) 4 j) (i:=j) (by simpa using hlj));rw[B5o hlj,if_neg (by omega)]at d0;have f0:=D.frozen j;have D3:=D.set_ j (.int .u64 (E6 (E0 r j <<< (1:UInt64) ||| shC r c0 j)));rw[Fv,A1l (f:=shW r c0) (g:=E0 r) (x:=E0 r j <<< (1:UInt64) ||| shC r c0 j) hlj rfl]at D3;go_wp2_with fail;refine A3k 12 (fun W=>W.cell? ⟨w.heap.size+1,j,none⟩=some (.int .u64 (E6 (E0 r j)))) (by kernel_rfl) ?_;refine Lk (A:=?A1) [0,1,2,7,8] (by kernel_rfl) (by kernel_rfl) rfl (by kernel_rfl) (by kernel_rfl) (by kernel_rfl) (fun _=>d0) (h:=fun W=>?h1) (hr:=?r1);case h1=>exact Fa
       refine A3i (A:=?A2) [3,9] (by kernel_rfl) (by kernel_rfl) rfl (by kernel_rfl) (by kernel_rfl) (by kernel_rfl) d0 (h:=fun W hW=>?h2) (hr:=?r2);case h2=>
        simp only[List.append_eq,Nw,pick,Se];repeat (go_big_quiet_step (fail))
        refine wpQuiet_nil ?_;rfl
       refine Lk (A:=?A4) [4,5,6,10,11] (by kernel_rfl) (by kernel_rfl) rfl (by kernel_rfl) (by kernel_rfl) (by kernel_rfl) (fun _=>d0) (h:=fun W=>?h4) (hr:=?r4);case h4=>
        simp only[List.append_eq,Nw,pick,Se];repeat (go_big_quiet_step (fail))
        refine wpQuiet_nil ?_;rfl
       refine A1o (by kernel_rfl) (by rfl) (by rfl) (fun Q' hQ'=>?_);dsimp only[C6];go_wp2_with fail;refine Lk (A:=?A3) [13] (by kernel_rfl) (by kernel_rfl) rfl (by kernel_rfl) (by kernel_rfl) (by kernel_rfl) (fun h=>absurd h (by decide)) (h:=fun W=>?h3) (hr:=?r3);case h3=>
        simp only[List.append_eq,Nw,pick,Se];repeat (go_big_quiet_step (fail))
        refine wpQuiet_nil ?_;rfl
       refine B2y (by kernel_rfl) ?_;go_wp2_with fail;go_roundw;case rel=>exact ⟨j+1,by omega,by go_num,rfl,K.drew.far (by show g≠w.heap.size+1;omega) _,D3,R.drew.far (by show w.heap.size≠w.heap.size+1;omega) _,(B.trans (Below.refl _ _).drew).setCell (by simp) _⟩
       case measure=>simp[intOf];omega
      ·obtain rfl:j=4:=by omega
       have e4:((4:Nat):Int)=4:=rfl;rw[e4];clear e4;have hD:Bk wr (w.heap.size+1) 245 (E4 (D1v r c0)):=D;obtain⟨y,hy⟩:=D9 (D1v r c0);have aA:y.length=4:=by rw[hy];simp
       have aH:Hid (Ml r0 x (k+1)=U4 y):=Lib.hid (by rw[HB.out,hy]);rw[←hy]at hD;have rk:=hD.row64 (n:=4) aA;clear D hy;go_wp2_with fail;refine (Pa y aA wr).mono ?_;rintro e w2 ⟨rfl,b2⟩;have K2:=K.bl b2;have D2:=hD.bl b2;have R2:=R.bl b2;have B2:=X4 B b2;have aI:=Ct aA;have aJ:F9 w2 ⟨w.heap.size+1,0,none⟩ 4=true:=D2.can (by simp[aA]);have D3:=D2.puts (vs:=E4 (U4 y)) (by simp[aA,aI]);rw[←aH.out]at D3;have K3:=K2.putFar (p:=⟨w.heap.size+1,0,none⟩) (by show g≠w.heap.size+1;omega) (E4 (U4 y));have R3:=R2.putFar (p:=⟨w.heap.size+1,0,none⟩) (by show w.heap.size≠w.heap.size+1;omega) (E4 (U4 y));have B3:=C0 (a:=⟨w.heap.size+1,0,none⟩) B2 (by simp) (E4 (U4 y));rw[aH.out]at D3;go_wp2_with fail;go_roundw;case rel=>exact ⟨k+1,by omega,by rw[←ES.out];all_goals (simp<;>omega),K3,by rw[aH.out];exact D3,R3,B3⟩
       case measure=>have:=ES.out;simp[intOf]<;>omega
    ·obtain rfl:k=64:=by omega
     rw[←HN.out]at D;have e3:=E2.out;go_wp2_with fail;go_roundw;case rel=>exact ⟨m+1,by omega,by simp<;>omega,K,D,R,B⟩
     case measure=>simp[intOf];omega
  ·obtain rfl:m=n:=by omega
   have hD:Bk wr (w.heap.size+1) 245 (E4 (Pf ws)):=by have:=D;rw[←hn]at this;exact this
   obtain⟨ss,aC⟩:=D9 (Pf ws);have aK:ss.length=4:=by rw[aC];exact Er ws
   have HS:Hid (Pf ws=ss):=Lib.hid aC.symm;rw[←aC]at hD;have rk:=hD.row64 (n:=4) aK;have aP:decide (0≤(m:Int)-1-(m:Int))=false:=decide_eq_false (by omega);have aJ:=Nn 4 R (by simp);clear D aC;go_wp2_with fail;refine bodyPost_ret (C7 rfl _ _ _ _ _ _ rfl (R.puts (vs:=E4 ss) (by simp[aK])) Dv rfl (by simp[Jm,aK])) rfl ⟨by rw[HS.out];rfl,C0 B (Nat.le_refl _) _⟩
def A1p (b:List UInt8):List UInt64:=Pf (wl b 8 64)
theorem Hb (b:List UInt8):(A1p b).length=4:=Er _
@[go_sem ↓ high] theorem E8b:RB' 67:=BX' _
theorem A4x (b:List UInt8) (hb:b.length=64) (w:World):Calls Tryz.prog 194 #[A8 b] w fun e w'=>e=.returned (H7 (A1p b))∧Below w.heap.size w w':=by
 obtain⟨W0,aB⟩:=D9 ((w.alloc (Obj.cells (c8 b).toArray 67)).alloc (Obj.cells (E4 (T9 4)).toArray 247));have hL:W0=Z0 w [(67,c8 b),(247,E4 (T9 4))]:=aB;have B0:=BL' hL;have K0:=KZ' hL rfl;have R0:=KL' 1 hL rfl;clear hL;go_enter Tryz.func194,Tryz.ntmps194;go_wp2_with fail;rw[←aB];clear aB;refine (A6e b 64 8 w.heap.size _ hb rfl (by decide) W0 K0).mono ?_;rintro e w1 ⟨p,rfl,P1,hp,b1⟩;have R1:=R0.bl b1;have B1:=X4 B0 b1;obtain⟨ws,aA⟩:=D9 (wl b 8 64);have aC:ws.length=8:=by rw[aA];simp
 have HS:Hid (A1p b=Pf ws):=Lib.hid (by rw[aA];rfl);rw[←aA]at P1;clear aA;go_wp2_with fail;refine (A7g ws 8 p _ aC (by decide) w1 P1).mono ?_;rintro e w2 ⟨rfl,b2⟩;have R2:=R1.bl b2;have B2:=X4 B1 b2;have hl:=Er ws;have aD:=Nn 4 R2 (by simp);go_wp2_with fail;refine bodyPost_ret (C7 rfl _ _ _ _ _ _ rfl (R2.puts (vs:=E4 (Pf ws)) (by simp[hl])) Dv rfl (by simp[Jm,hl])) rfl ⟨by rw[HS.out];rfl,C0 B2 (by simp) _⟩
section
theorem Qo:∀(xs ys:List UInt64),xs.length=ys.length→((List.range xs.length).all fun i=>xs.getD i 0==ys.getD i 0)=(xs==ys)
 | [],[],_=>rfl
 | x::xs,y::ys,h=>by
  have ih:=Qo xs ys (by simpa using h);rw[List.length_cons,List.range_succ_eq_map,List.all_cons,List.all_map];simp only[List.getD_cons_zero,Function.comp_def,List.getD_cons_succ,ih];simp[List.cons_beq_cons]
 | [],_::_,h=>by simp at h
 | _::_,[],h=>by simp at h
section
variable {P : Program} (w : World)
theorem Jw (d:Nat) (t e:TypeId) (n:Nat) (ht:P.underlying t=some (.array n e)) (he:P.underlying e=some (.int .u64)) (hsz:∀w,(sizeOf e).run P w=.ok 1 w)
 (xs ys:List UInt64) (hx:xs.length=n) (hy:ys.length=n) :
 (Op.equalIn (d+2) t (.agg (xs.map Wr).toArray) (.agg (ys.map Wr).toArray)).run P w=.ok (xs==ys) w:=by
 rw[←Qo xs ys (hx.trans hy.symm),hx,List.range_eq_range',Op.equalIn];simp only[Sem.run_bind,run_underlying ht,Result.andThen_ok,hsz,Std.Legacy.Range.forIn_eq_forIn_range',Std.Legacy.Range.size,Nat.sub_zero,Nat.add_sub_cancel,Nat.div_one];have hl:∀i∈List.range' 0 n 1,i<n:=fun i hi=>by simpa using (List.mem_range'_1.1 hi).2
 generalize List.range' 0 n 1=l at hl ⊢;induction l with
 | nil=>simp
 | cons i l ih=>
  have hi:i<n:=hl i (by simp);have px:(part e (xs.map Wr).toArray (i*1)).run P w=.ok (Wr (xs.getD i 0)) w:=by simp[part,isAgg,run_underlying he,List.getD,List.getElem?_eq_getElem (show i<xs.length by omega)]
  have py:(part e (ys.map Wr).toArray (i*1)).run P w=.ok (Wr (ys.getD i 0)) w:=by simp[part,isAgg,run_underlying he,List.getD,List.getElem?_eq_getElem (show i<ys.length by omega)]
  have pe:(Op.equalIn (d+1) e (Wr (xs.getD i 0)) (Wr (ys.getD i 0))).run P w=.ok (xs.getD i 0==ys.getD i 0) w:=by rw[Wr,Wr,run_equalIn_int w d e .u64 .u64 _ _ he];congr 1;rw[Bool.eq_iff_iff];simp only[beq_iff_eq];exact ⟨fun h=>B7n (by unfold Wr;rw[h]),fun h=>by rw[h]⟩
  simp only[List.forIn_cons,Sem.run_bind,px,py,pe,Result.andThen_ok,List.all_cons];cases hb:(xs.getD i 0==ys.getD i 0)
  ·simp
  ·simp only[Bool.not_true,Bool.false_eq_true,if_false,Sem.run_pure,Result.andThen_ok,Bool.true_and];exact ih fun j hj=>hl j (by simp[hj])
end
theorem B4s (w:World):(sizeOf 99).run Tryz.prog w=.ok 1 w:=by kernel_rfl
theorem B6l (d:Nat) (w:World) (xs ys:List UInt64) (hx:xs.length=4) (hy:ys.length=4):(Op.equalIn (d+2) 245 (H7 xs) (H7 ys)).run Tryz.prog w=.ok (xs==ys) w:=
 Jw w d _ _ 4 Tryz.underlying245 Tryz.underlying99 B4s xs ys hx hy
theorem B7a (d:Nat) (w:World) (xs ys:List UInt64) (hx:xs.length=5) (hy:ys.length=5):(Op.equalIn (d+2) 178 (H7 xs) (H7 ys)).run Tryz.prog w=.ok (xs==ys) w:=
 Jw w d _ _ 5 Tryz.underlying178 Tryz.underlying99 B4s xs ys hx hy
theorem C8r:Tryz.prog.stoodInHeld 180=false:=by kernel_rfl
theorem D1n:Tryz.prog.stoodInHeld 182=false:=by kernel_rfl
theorem D6r (w:World):(sizeOf 178).run Tryz.prog w=.ok 5 w:=by kernel_rfl
theorem D6e (w:World):(sizeOf 180).run Tryz.prog w=.ok 5 w:=by kernel_rfl
theorem D5q (xs:List UInt64) (o:Nat) (w:World):(part 178 (E4 xs).toArray o).run Tryz.prog w=.ok (H7 ((xs.drop o).take 5)) w:=by
 simp[part,isAgg,run_underlying Tryz.underlying178,D6r,H7,E4,List.extract_eq_take_drop]
theorem Zy (xs:List UInt64) (o:Nat) (w:World):(part 180 (E4 xs).toArray o).run Tryz.prog w=.ok (H7 ((xs.drop o).take 5)) w:=by
 simp[part,isAgg,run_underlying Xa,D6e,H7,E4,List.extract_eq_take_drop]
def eqF (d:Nat) (xs ys:Array Value):List (Bool×TypeId×Nat)→Sem Bool
 | []=>pure true
 | (b,t,o)::fs=>
  if b=true then do
   let a ←part t xs o
   let b ←part t ys o
   let r ←Op.equalIn d t a b
   if (!r)=true then pure false else eqF d xs ys fs
  else eqF d xs ys fs
theorem Lr (d : Nat) (xs ys : Array Value) : ∀ fs : List Field, Op.eqFields d xs ys fs = eqF d xs ys (fs.map fun f => (decide (f.name ≠ "_"), f.type, f.offset))
 | []=>rfl
 | f::fs=>by
  simp only[Op.eqFields,List.map_cons,eqF,Lr d xs ys fs];by_cases h : f.name ≠ "_" <;> simp [h]
theorem D9w : ((Tryz.prog.fieldsOf 180).toList.map fun f => (decide (f.name ≠ "_"), f.type, f.offset)) = [(true, 178, 0)] := by kernel_rfl
theorem E0j : ((Tryz.prog.fieldsOf 182).toList.map fun f => (decide (f.name ≠ "_"), f.type, f.offset)) = [(true, 180, 0), (true, 180, 5), (true, 180, 10), (true, 180, 15)] := by kernel_rfl
theorem C8s:Tryz.prog.underlying 180=some (.struct (Tryz.prog.fieldsOf 180)):=by kernel_rfl
theorem C8d:Tryz.prog.underlying 182=some (.struct (Tryz.prog.fieldsOf 182)):=by kernel_rfl
theorem Mg (d:Nat) (w:World) (xs ys:List UInt64) (hx:xs.length=5) (hy:ys.length=5):(Op.equalIn (d+3) 180 (H7 xs) (H7 ys)).run Tryz.prog w=.ok (xs==ys) w:=by
 rw[H7,H7,run_equalIn_struct w (d+2) _ _ _ C8s C8r,Lr,D9w];simp only[eqF,if_true,Sem.run_bind,D5q,Result.andThen_ok,List.drop_zero];rw[List.take_of_length_le (by omega),List.take_of_length_le (by omega),B7a d w xs ys hx hy];cases h:xs==ys<;>simp
theorem D3w {xs ys:List UInt64} (hx:xs.length=20) (hy:ys.length=20):(xs==ys)=(xs.take 5==ys.take 5&&((xs.drop 5).take 5==(ys.drop 5).take 5&&((xs.drop 10).take 5==(ys.drop 10).take 5&&((xs.drop 15).take 5==(ys.drop 15).take 5)))):=by
 rw[Bool.eq_iff_iff];simp only[beq_iff_eq,Bool.and_eq_true];constructor
 ·rintro rfl;exact ⟨rfl,rfl,rfl,rfl⟩
 ·rintro ⟨h0,h1,h2,h3⟩;have e:∀l:List UInt64,l.length=20→l=l.take 5++((l.drop 5).take 5++((l.drop 10).take 5++(l.drop 15).take 5)):=by intro l hl;have a1:=(List.take_append_drop 5 l).symm;have a2:=(List.take_append_drop 5 (l.drop 5)).symm;have a3:=(List.take_append_drop 5 (l.drop 10)).symm;have a4:(l.drop 15).take 5=l.drop 15:=List.take_of_length_le (by simp;omega);rw[List.drop_drop]at a2 a3;rw[a4,←a3,←a2,←a1]
  rw[e xs hx,e ys hy,h0,h1,h2,h3]
theorem B6d (d:Nat) (w:World) (xs ys:List UInt64) (hx:xs.length=20) (hy:ys.length=20):(Op.equalIn (d+4) 182 (H7 xs) (H7 ys)).run Tryz.prog w=.ok (xs==ys) w:=by
 rw[H7,H7,run_equalIn_struct w (d+3) _ _ _ C8d D1n,Lr,E0j,D3w hx hy];simp only[eqF,if_true,Sem.run_bind,Zy,Result.andThen_ok,List.drop_zero];rw[Mg d w _ _ (by simp;omega) (by simp;omega)];cases h0:xs.take 5==ys.take 5
 ·simp
 simp only[Result.andThen_ok,Bool.not_true,Bool.false_eq_true,if_false,Sem.run_bind,Zy];rw[Mg d w _ _ (by simp;omega) (by simp;omega)];cases h1:(xs.drop 5).take 5==(ys.drop 5).take 5
 ·simp
 simp only[Result.andThen_ok,Bool.not_true,Bool.false_eq_true,if_false,Sem.run_bind,Zy];rw[Mg d w _ _ (by simp;omega) (by simp;omega)];cases h2:(xs.drop 10).take 5==(ys.drop 10).take 5
 ·simp
 simp only[Result.andThen_ok,Bool.not_true,Bool.false_eq_true,if_false,Sem.run_bind,Zy];rw[Mg d w _ _ (by simp;omega) (by simp;omega)];cases h3:(xs.drop 15).take 5==(ys.drop 15).take 5<;>simp
noncomputable def D0w (neg:Bool) (n:Nat) (w:World) (raw:Result Next) (a b:Value):Result Next:=
 match B7w a,B7w b with
 | some xs,some ys=>if xs.length=n∧ys.length=n then .ok (.value (.bool (neg != (xs==ys)))) w else raw
 | _,_=>raw
@[go_sem] theorem E3i (neg : Bool) (n : Nat) (w : World) (raw : Result Next) (xs ys : List UInt64) (hx : xs.length = n) (hy : ys.length = n) : D0w neg n w raw (H7 xs) (H7 ys) = .ok (.value (.bool (neg != (xs == ys)))) w := by
 unfold D0w;rw[A2t,A2t];exact if_pos ⟨hx,hy⟩
section
variable {P : Program} (w : World) (ρ : Operand → Value) (dst : Option Tmp) (ty : TypeId) (pos : String) (after : Array Edge) (guard : Option (Nat × Bool))
theorem C5v (t n:TypeId) (x y:Operand) (yt:TypeId) (hq:∀xs ys:List UInt64,xs.length=n→ys.length=n→(Op.equalIn 10000 t (H7 xs) (H7 ys)).run P w=.ok (xs==ys) w) (hg:P.eqGuardType P.depth t=false) :
 (execOp ρ { dst,op:=.binOp .neq t x y yt,type:=ty,pos,after,guard }).run P w=D0w true n w (O9 P ρ { dst,op:=.binOp .neq t x y yt,type:=ty,pos,after,guard } w) (ρ x) (ρ y):=by
 generalize hv:ρ x=a;generalize hz:ρ y=b;unfold D0w;split
 ·rename_i xs ys h1 h2
  replace h1:=A8x h1;replace h2:=A8x h2;split
  ·rename_i h
   have aA:(eqGuard .neq t x y a b).run P w=.ok () w:=by rw[h1,h2];exact run_eqGuard_agg (P:=P) w .neq t x y _ _ hg
   have e1:(binOp .neq t a b).run P w=.ok (.bool (!(xs==ys))) w:=by rw[h1,h2,H7,H7,run_neq_struct];exact congrArg (fun r:Result Bool=>r.andThen fun b w'=>Result.ok (Value.bool (!b)) w') (hq xs ys h.1 h.2)
   simp only[execOp,hv,hz,Sem.run_bind,aA,Result.andThen_ok,e1,Sem.run_pure];simp
  ·rfl
 ·rfl
end
section
variable (w : World) (ρ : Operand → Value) (dst : Option Tmp) (ty : TypeId) (pos : String) (after : Array Edge) (guard : Option (Nat × Bool))
@[go_sem ↓ high] theorem E9n (x y : Operand) (yt : TypeId) :
 (execOp ρ { dst,op:=.binOp .neq 245 x y yt,type:=ty,pos,after,guard }).run Tryz.prog w=D0w true 4 w (O9 Tryz.prog ρ { dst,op:=.binOp .neq 245 x y yt,type:=ty,pos,after,guard } w) (ρ x) (ρ y):=
 C5v w ρ dst ty pos after guard 245 4 x y yt (fun xs ys hx hy=>B6l 9998 w xs ys hx hy) (by kernel_rfl)
end
structure Pn where
 x:List UInt64
 y:List UInt64
 z:List UInt64
 t:List UInt64
def Pn.row (p:Pn):List UInt64:=ptl p.x p.y p.z p.t
structure Pn.Ok (p : Pn) : Prop where
 x:p.x.length=5
 y:p.y.length=5
 z:p.z.length=5
 t:p.t.length=5
theorem Pn.Ok.row {p:Pn} (h:p.Ok):p.row.length=20:=B8o h.x h.y h.z h.t
theorem Bk.put64 {w:World} {g:Nat} {t:TypeId} {l m:List UInt64} {n:Nat} (K:Bk w g t (E4 l)) (hl:l.length=n) (hm:m.length=n):Bk (C2 w ⟨g,0,none⟩ (E4 m)) g t (E4 m):=K.puts (by simp[hl,hm])
theorem Bk.put8 {w:World} {g:Nat} {t:TypeId} {l m:List UInt8} {n:Nat} (K:Bk w g t (c8 l)) (hl:l.length=n) (hm:m.length=n):Bk (C2 w ⟨g,0,none⟩ (c8 m)) g t (c8 m):=K.puts (by simp[hl,hm])
theorem Bk.can64 {w:World} {g:Nat} {t:TypeId} {l:List UInt64} {n:Nat} (K:Bk w g t (E4 l)) (hl:l.length=n):F9 w ⟨g,0,none⟩ n=true:=K.can (by simp[hl])
theorem Bk.can8 {w:World} {g:Nat} {t:TypeId} {l:List UInt8} {n:Nat} (K:Bk w g t (c8 l)) (hl:l.length=n):F9 w ⟨g,0,none⟩ n=true:=K.can (by simp[hl])
theorem Gg {Q':Exit→Act→World→Prop} {a a':Act} {w:World} (h:Q' .normal a w) (e:a=a'):Q' .normal a' w:=e▸h
def O6 (Z:List Soup) (us:Nat→Value) (l:List Value):List Value:=Z.foldl (fun l z=>l.set z.dst (us z.at_)) l
theorem D8:∀(Z:List Soup) (us:Nat→Value) (l:List Value) (ds:List Deferred),V8 Z us ⟨l.toArray,ds⟩=⟨(O6 Z us l).toArray,ds⟩
 | [],_,_,_=>rfl
 | z::Z,us,l,ds=>by
  show V8 Z us (Act.put ⟨l.toArray,ds⟩ (some z.dst) (us z.at_))=⟨(O6 Z us (l.set z.dst (us z.at_))).toArray,ds⟩;rw[←D8 Z us (l.set z.dst (us z.at_)) ds];unfold Act.put;simp
end
theorem P4' {w V : World} {g : Nat} {T : TypeId} {l m : List UInt64} (n : Nat) (h : V = C2 w ⟨g, 0, none⟩ (E4 m)) (k : Bk w g T (E4 l)) (e : l.length = n) (e2 : m.length = n) : Bk V g T (E4 m) := h ▸ Bk.put64 k e e2
theorem C4' {w : World} {g : Nat} {T : TypeId} {l : List UInt64} (n : Nat) (k : Bk w g T (E4 l)) (e : l.length = n) : F9 w ⟨g, 0, none⟩ n = true := Bk.can64 k e
theorem FE' {Q' : Exit → Act → World → Prop} {a a' : Act} {w : World} (h : Q' .normal a w) (e : a = a' := by kernel_rfl) : Q' .normal a' w := e ▸ h
theorem MO' {P : Prop} (h : P := by
  repeat (first | exact FN' | refine Mp ⟨by first | exact Jp _ _ _ | exact za_mono _ _ _ _ | exact zs_mono _ _ _ _ | exact zp_mono _ _ _ | exact zb_mono _ _ _ | exact zk_mono _ _ _ | exact zl_mono _ _ _, ?_⟩)) : P := h
theorem RP' {P Q : Prop} (q : Q) (h : Q → P := by
  intro q
  rw [D8]
  dsimp only [O6, List.foldl, zv, za]
  simp only [List.set_cons_succ, List.set_cons_zero]
  exact q) : P := h q
theorem KC' {Q : World → Prop} {P : Prop} (c : ∀ W, Q W) (h : (∀ W, Q W) → P := by
  intro c o ho us W hW hp Q' hQ'
  obtain rfl := Option.some.inj ho
  clear hp ho
  rw [D8] at hQ' ⊢
  dsimp only [C6, O6, List.foldl, zv, za] at hQ' ⊢
  simp only [List.set_cons_succ, List.set_cons_zero]
  go_wp2_with fail
  refine (c W).mono ?_
  rintro e W2 ⟨rfl, b2⟩
  go_wp2_with fail
  exact Gg (hQ' _ _ b2 rfl (fun h => by cases h)) (by kernel_rfl)) : P := h c
theorem E7h {Q : World → Prop} {P : Prop} (c : ∀ W, Q W) (h : (∀ W, Q W) → P := by
  intro c o ho us W hW hp Q' hQ'
  obtain rfl := Option.some.inj ho
  have g0 := hp 0 _ rfl (by kernel_rfl)
  clear hp ho
  rw [D8] at hQ' ⊢
  dsimp only [C6, O6, List.foldl, zv, za] at hQ' ⊢
  simp only [List.set_cons_succ, List.set_cons_zero]
  dsimp only [zv] at g0
  rw [g0] at hQ' ⊢
  clear g0
  go_wp2_with fail
  refine (c W).mono ?_
  rintro e W2 ⟨rfl, b2⟩
  go_wp2_with fail
  exact Gg (hQ' _ _ b2 rfl (fun h => by cases h)) (by kernel_rfl)) : P := h c
theorem F1n {Q : World → Prop} {P : Prop} (c : ∀ W, Q W) (h : (∀ W, Q W) → P := by
  intro c o ho us W hW hp Q' hQ'
  obtain rfl := Option.some.inj ho
  have g1 := hp 1 _ rfl (by kernel_rfl)
  clear hp ho
  rw [D8] at hQ' ⊢
  dsimp only [C6, O6, List.foldl, zv, za] at hQ' ⊢
  simp only [List.set_cons_succ, List.set_cons_zero]
  dsimp only [zv] at g1
  rw [g1] at hQ' ⊢
  clear g1
  go_wp2_with fail
  refine (c W).mono ?_
  rintro e W2 ⟨rfl, b2⟩
  go_wp2_with fail
  exact Gg (hQ' _ _ b2 rfl (fun h => by cases h)) (by kernel_rfl)) : P := h c
theorem F1m {Q : World → Prop} {P : Prop} (c : ∀ W, Q W) (h : (∀ W, Q W) → P := by
  intro c o ho us W hW hp Q' hQ'
  obtain rfl := Option.some.inj ho
  have g2 := hp 2 _ rfl (by kernel_rfl)
  clear hp ho
  rw [D8] at hQ' ⊢
  dsimp only [C6, O6, List.foldl, zv, za] at hQ' ⊢
  simp only [List.set_cons_succ, List.set_cons_zero]
  dsimp only [zv] at g2
  rw [g2] at hQ' ⊢
  clear g2
  go_wp2_with fail
  refine (c W).mono ?_
  rintro e W2 ⟨rfl, b2⟩
  go_wp2_with fail
  exact Gg (hQ' _ _ b2 rfl (fun h => by cases h)) (by kernel_rfl)) : P := h c
theorem E7j {Q : World → Prop} {P : Prop} (c : ∀ W, Q W) (h : (∀ W, Q W) → P := by
  intro c o ho us W hW hp Q' hQ'
  obtain rfl := Option.some.inj ho
  have g0 := hp 0 _ rfl (by kernel_rfl)
  have g1 := hp 1 _ rfl (by kernel_rfl)
  clear hp ho
  rw [D8] at hQ' ⊢
  dsimp only [C6, O6, List.foldl, zv, za] at hQ' ⊢
  simp only [List.set_cons_succ, List.set_cons_zero]
  dsimp only [zv] at g0 g1
  rw [g0, g1] at hQ' ⊢
  clear g0 g1
  go_wp2_with fail
  refine (c W).mono ?_
  rintro e W2 ⟨rfl, b2⟩
  go_wp2_with fail
  exact Gg (hQ' _ _ b2 rfl (fun h => by cases h)) (by kernel_rfl)) : P := h c
theorem F0a {Q : World → Prop} {P : Prop} (c : ∀ W, Q W) (h : (∀ W, Q W) → P := by
  intro c o ho us W hW hp Q' hQ'
  obtain rfl := Option.some.inj ho
  have g0 := hp 0 _ rfl (by kernel_rfl)
  have g1 := hp 1 _ rfl (by kernel_rfl)
  have g2 := hp 2 _ rfl (by kernel_rfl)
  clear hp ho
  rw [D8] at hQ' ⊢
  dsimp only [C6, O6, List.foldl, zv, za] at hQ' ⊢
  simp only [List.set_cons_succ, List.set_cons_zero]
  dsimp only [zv] at g0 g1 g2
  rw [g0, g1, g2] at hQ' ⊢
  clear g0 g1 g2
  go_wp2_with fail
  refine (c W).mono ?_
  rintro e W2 ⟨rfl, b2⟩
  go_wp2_with fail
  exact Gg (hQ' _ _ b2 rfl (fun h => by cases h)) (by kernel_rfl)) : P := h c
end Go.Proofs.YtmllnpokbbabhaaGreat
