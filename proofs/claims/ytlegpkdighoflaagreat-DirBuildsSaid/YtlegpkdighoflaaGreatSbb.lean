/- A part of the proof of DirBuilds. -/
import Derived.OrdersIn
import Derived.RangeFuncCalls
import Derived.CallsIn
import Derived.TacticsInMore
import Derived.OwnWalkIn
import Derived.Sort.QuietThIn
import Derived.RangeFuncNested
import Derived.RangeFuncBound
import Derived.RangeFuncLeaves
import Derived.RangeFuncKeeps
import Derived.Shelf.Abstract
import Derived.Shelf.RegionOpen
import Derived.WalkKit
import Derived.Outline
import Derived.Test.YtlegpkdighoflaaGreatSba
set_option linter.unusedVariables false
set_option linter.unusedSimpArgs false
set_option maxRecDepth 100000
set_option maxHeartbeats 40000000
namespace Go.Proofs.YtlegpkdighoflaaGreat
open Go Go.RowKit Sh
section
structure Free (F : Fence) : Prop where
 fn:∀f,F.fn f
 depth:F.depth=none
 calls:∀ {n:Nat} {P:Program} {f:FuncId} {args:Array Value} {w:World} {R:Ending→World→Prop},Calls P f args w R→CallsIn F n P f args w R
 rows:∀ {n:Nat} {P:Program} {r:String} {args:Array Value} {w:World} {R:Value→World→Prop},Rows P r args w R→RowsIn F n P r args w R
theorem A4w:Free Fence.wide:=⟨fun _=>trivial,rfl,fun h=>callsIn_wide.2 h,fun h c cs hr=>by
 obtain⟨v,w',a,b⟩:=h c cs;exact ⟨v,w',a,stepsIn_wide.2 b⟩⟩
theorem Kc (l:Nat):Free (Fence.wide.inRound l):=⟨fun _=>trivial,rfl,fun h=>CallsIn.inRound l (callsIn_wide.2 h),fun {n} {P} {r} {args} {w} {R} h=>A4w.rows (n:=n) h⟩
theorem C1x {F:Fence} {n:Nat} {P:Program} {o:Oper} {a:Act} {w:World} {K:Act→World→Prop} {Q:Exit→Act→World→Prop} (h:(E4 o).wpIn F n P a w K Q):o.wpIn F n P a w K Q:=h
section
variable {F : Fence} {n : Nat} {P : Program} {ops : Array Oper} {md : Region.Mode} {S : World → Prop}
theorem B7e (hF:Free F) {o:Oper} {a:Act} {w:World} {K:Act→World→Prop} {Q:Exit→Act→World→Prop} (hd:∀c,o.op≠.defer c) (h:o.wp P a w K Q):o.wpIn F n P a w K Q:=by
 refine ⟨fun f _=>hF.fn f,?_⟩;rw[Oper.semAt_eq F.round a.eval o hd];unfold Oper.wp at h;have aA:∀k:Nat,(F.depth.isSome=true→1≤k):=fun k h=>by rw[hF.depth]at h;cases h
 generalize (execOp a.eval o).run P w=r at *;cases r with
 | ok x w'=>
  cases x<;>simp only[Oper.upon,Oper.uponIn]at h ⊢<;>
   first
    | exact h
    | exact ⟨aA _,hF.calls h⟩
    | exact ⟨aA _,hF.rows h⟩
    | exact h.elim
 | halt x w'=>cases x<;>simp only[Oper.upon,Oper.uponIn]at h ⊢<;>exact h
def Mi (l:List Oper):Bool:=l.all fun o=>match o.op with | .defer _=>false | _=>true
theorem Ua {l:List Oper} (h:Mi l=true) {i:Nat} {o:Oper} (hi:l[i]?=some o):∀c,o.op≠.defer c:=by
 intro c e;have:=List.all_eq_true.1 h o (List.mem_of_getElem? hi);rw[e]at this;cases this
theorem Z8.opIn (hF:Free F) {i:Nat} {o:Oper} {v:Value} {a:Act} {K:Act→World→Prop} {Q:Exit→Act→World→Prop} {w:World} (hd:∀c,o.op≠.defer c) (hy:Z8 P ops S o v a) (hi:ops[i]?=some o) (hS:S w) (h:K (a.put o.dst v) w):wpOpIn F n P ops Q i K a w:=by
 unfold wpOpIn;simp only[hi];rcases hy with ⟨hw,hv⟩ | ⟨hw,rfl⟩
 ·rw[if_pos hw];exact B7e hF hd (Oper.wp_of_quiet (C:=fun w'=>w'=w) (K:=fun a'=>K a' w) rfl (fun a' w' hw' hK=>by rw[hw'];exact hK) ⟨v,fun w' hw'=>by rw[hw'];exact hv w hS,h⟩)
 ·rw[if_neg (by rw[hw];simp)];exact ⟨fun f _=>hF.fn f,h⟩
theorem A0b (hF:Free F) {j:Nat} {oi oj:Oper} {v:Value} {Q:Exit→Act→World→Prop} (hdj:∀c,oj.op≠.defer c) (hj:ops[j]?=some oj) (hap:oi.apart ops oj=true) (hsi:∀cs b,oi.op≠.select cs b) (hsj:∀cs b,oj.op≠.select cs b)
 (hQ:∀c a a' w,Q (.panic c) a w→Q (.panic c) a' w) {K:Act→World→Prop} {a:Act} {w:World} (hy:Z8 P ops S oi v a) (h:wpOpIn F n P ops Q j K (a.put oi.dst v) w) :
 wpOpIn F n P ops Q j (fun a' w'=>Z8 P ops S oi v a'∧K (a'.put oi.dst v) w') a w:=by
 obtain⟨h1,h2,h3⟩:=Oper.apart_spec hap;have stays:∀(b:Act) (u:Value),Z8 P ops S oi v b→Z8 P ops S oi v (b.put oj.dst u):=fun b u hb=>
  hb.alike (execOp_put oi hsi b oj.dst u h3) (wanted_put oi b oj.dst u h3)
 have aA:∀(b:Act) (u:Value) (w:World),K ((b.put oi.dst v).put oj.dst u) w→K ((b.put oj.dst u).put oi.dst v) w:=fun b u w hk=>by
  rw[←Act.put_comm b v u h2];exact hk
 unfold wpOpIn at *;simp only[hj]at *;rw[wanted_put oj a oi.dst v h1]at h;by_cases hw:Region.wanted oj (yielded ops a.tmps)=true
 ·rw[if_pos hw]at h ⊢;refine ⟨fun f _=>hF.fn f,?_⟩;have h:=h.2;rw[Oper.semAt_eq F.round _ oj hdj]at h ⊢;rw[execOp_put oj hsj a oi.dst v h1]at h;generalize (execOp a.eval oj).run P w=r at *;cases r with
  | ok x w'=>
   cases x<;>simp only[Oper.uponIn]at h ⊢;case value u=>exact ⟨stays a u hy,aA _ _ _ h⟩
   case skip=>exact ⟨stays a _ hy,aA _ _ _ h⟩
   case defer d=>exact ⟨stays _ _ (Z8.alike (a:=a) hy rfl rfl),aA _ _ _ (by rw[←Act.put_defers];exact h)⟩
   case enter f args=>
    refine ⟨h.1,CallsIn.mono h.2 fun e w'' he=>?_⟩;cases e with
    | returned u=>exact ⟨stays a u hy,aA _ _ _ he⟩
    | panicked c=>exact hQ _ _ _ _ he
    | outgrown=>exact he
   case row row args=>exact ⟨h.1,RowsIn.mono h.2 fun u w'' he=>⟨stays a u hy,aA _ _ _ he⟩⟩
   case round l f tmps assign body=>
    refine ⟨h.1,RoundIn.mono h.2 fun e w'' he=>?_⟩;cases e with
    | returned u=>exact ⟨stays a u hy,aA _ _ _ he⟩
    | panicked c=>exact hQ _ _ _ _ he
    | outgrown=>exact he
  | halt x w'=>
   cases x<;>simp only[Oper.uponIn]at h ⊢;case panic u=>exact hQ _ _ _ _ h
 ·rw[if_neg hw]at h ⊢;exact ⟨fun f _=>hF.fn f,stays a _ hy,aA _ _ _ h.2⟩
def Jw (F:Fence) (n:Nat) (P:Program) (md:Region.Mode) (ops:Array Oper) (Q:Exit→Act→World→Prop) (S:World→Prop):Nat→Array Bool→Act→World→Prop
 | 0,listed,a,w=>Region.ready md ops listed=[]∧Q .normal a w
 | fuel+1,listed,a,w=>
  (Region.ready md ops listed=[]→Q .normal a w)∧
  ∀i∈Region.ready md ops listed,wpOpIn F n P ops Q i (fun a' w'=>S w'∧Jw F n P md ops Q S fuel (listed.setIfInBounds i true) a' w') a w
theorem Sm {Q:Exit→Act→World→Prop}:∀(fuel:Nat) (listed:Array Bool) (a:Act) (w:World),Jw F n P md ops Q S fuel listed a w→wpAnyIn F n P md ops Q fuel listed a w
 | 0,_,_,_,h=>h
 | fuel+1,_,_,_,h=>⟨h.1,fun i hi=>wpOpIn_mono (fun a' w' h'=>Sm fuel _ a' w' h'.2) (h.2 i hi)⟩
theorem Sj (hF:Free F) {l:List Oper} (hnd:Mi l=true) {i:Nat} {oi:Oper} {v:Value} {Q:Exit→Act→World→Prop} (hi:l.toArray[i]?=some oi) (hsel:∀(j:Nat) (o:Oper) cs b,l.toArray[j]?=some o→o.op≠.select cs b) (hQ:∀c a a' w,Q (.panic c) a w→Q (.panic c) a' w) :
 ∀(fuel:Nat) (listed:Array Bool) (a:Act) (w:World),
  (∀j oj,l.toArray[j]?=some oj→j≠i→listed.getD j true=false→(∀e∈oj.after,Region.binds md e=true→e.on≠i)→oi.apart l.toArray oj=true)→
  i∈Region.ready md l.toArray listed→Z8 P l.toArray S oi v a→S w→
  Jw F n P md l.toArray Q S fuel (listed.setIfInBounds i true) (a.put oi.dst v) w→Jw F n P md l.toArray Q S (fuel+1) listed a w
 | fuel,listed,a,w,hfree,hr,hy,hS,H=>by
  refine ⟨fun h=>(by rw[h]at hr;cases hr),fun j hj=>?_⟩;by_cases hji:j=i
  ·subst hji;exact hy.opIn hF (Ua hnd (by simpa using hi)) hi hS ⟨hS,H⟩
  ·cases fuel with
   | zero=>have:=ready_mono hj hji;rw[H.1]at this;cases this
   | succ fuel=>
    obtain⟨aA,oj,aB,aC⟩:=mem_ready.1 hj;have aE:=(mem_ready.1 hr).1;have aD:∀e∈oj.after,Region.binds md e=true→e.on≠i:=fun e he hb heq=>by
     have h1:=aC e he hb;rw[heq,getD_both aE]at h1;cases h1
    refine wpOpIn_mono (fun a' w' h3=>⟨h3.2.1,Sj hF hnd hi hsel hQ fuel (listed.setIfInBounds j true) a' w' (fun k ok hk hki hkun hno=>?_) (ready_mono hr (Ne.symm hji)) h3.1 h3.2.1 ?_⟩) (A0b hF (Ua hnd (by simpa using aB)) aB (hfree j oj aB hji aA aD) (fun cs b=>hsel i oi cs b hi) (fun cs b=>hsel j oj cs b aB) hQ hy (H.2 j (ready_mono hj hji)))
    ·refine hfree k ok hk hki ?_ hno;by_cases hjk:j=k
     ·subst hjk;exact aA
     ·rw[getD_set_ne true hjk]at hkun;exact hkun
    ·rw[Array.setIfInBounds_comm _ _ hji];exact h3.2.2
variable {l : List Oper} {Q : Exit → Act → World → Prop} {a : Act} {w : World}
theorem Lm (hF:Free F) (hnd:Mi l=true):∀(qs:List Nat) (lq:List Oper) (fuel:Nat) (listed:Array Bool) (a:Act) (w:World),pick l qs=lq→lq.length=qs.length→Region.noSelect l.toArray=true→(Cu md l.toArray listed qs).2=true→S w→
 (∀c a a' w,Q (.panic c) a w→Q (.panic c) a' w)→
 Tz P l.toArray S (fun a'=>Jw F n P md l.toArray Q S fuel (Cu md l.toArray listed qs).1 a' w) lq a→Jw F n P md l.toArray Q S (fuel+qs.length) listed a w
 | [],lq,fuel,listed,a,w,hp,_,_,hB,hS,_,h=>by subst hp;exact h
 | i::is,lq,fuel,listed,a,w,hp,hl,hs,hB,hS,hQ,h=>by
  simp only[Cu,Bool.and_eq_true]at hB;obtain⟨⟨hr,hf⟩,hB⟩:=hB;simp only[pick]at hp;cases hi:l[i]? with
  | none=>rw[hi]at hp;subst hp;simp at hl
  | some o=>
   rw[hi]at hp;subst hp;obtain⟨v,hy,h⟩:=h;have aA:l.toArray[i]?=some o:=by simpa using hi
   exact Sj hF hnd aA (Region.noSelect_spec hs) hQ _ _ _ _ (Region.free_spec aA hf) (by simpa using hr) hy hS (Lm hF hnd is _ fuel _ _ w rfl (by simpa using hl) hs hB hS hQ h)
def Jc (F:Fence) (n:Nat) (P:Program) (l:List Oper) (Q:Exit→Act→World→Prop) (S:World→Prop) (done:List Nat) (a:Act) (w:World):Prop:=
 Jw F n P .any l.toArray (Ve Q) S (l.length-done.length) (O8 l.length done) a w
theorem A6r (S:World→Prop) {id:Nat} (hm:P.follows .mixedOrders=true) (h:Jc F n P l Q S [] a w.drew):(Code.region id l.toArray true).wpIn F n P Q a w:=by
 refine wpIn_mono (wpIn_region_any (Q:=Ve Q) hm ?_) Ui;have e:l.toArray.size=l.length:=by simp
 rw[e];exact Sm _ _ _ _ h
theorem A8f (hF:Free F) (hnd:Mi l=true) {done:List Nat} (qs:List Nat) {lq:List Oper} (hs:Region.noSelect l.toArray=true) (h1:(Cu .any l.toArray (O8 l.length done) qs).2=true)
 (hq:pick l qs=lq) (hn:(lq.length==qs.length&&decide (done.length+qs.length≤l.length))=true) (hd:Fb a.tmps.size lq=true) (hS:S w)
 (A:Act) (h:∀W,S W→wpQuiet P l.toArray (fun w'=>w'=W) (fun a'=>a'=A) lq a) (hr:Jc F n P l Q S (done++qs) A w):Jc F n P l Q S done a w:=by
 simp only[Bool.and_eq_true,beq_iff_eq]at hn;unfold Jc at *;have aA:=of_decide_eq_true hn.2;rw[show l.length-done.length=(l.length-(done++qs).length)+qs.length by simp;omega];refine Lm hF hnd qs lq _ _ a w hq hn.1 hs h1 hS (fun _ _ _ _ h=>h) (Hg (fun a' ha=>?_) lq a (Ds w hS lq a hd h));subst ha;rw[Km];unfold O8 at hr ⊢;rw[List.foldl_append]at hr;exact hr
theorem B3n {o:Oper} {a:Act} {w:World} {K K':Act→World→Prop} {Q Q':Exit→Act→World→Prop} (hK:∀a w,K a w→K' a w) (hQ:∀e a w,e≠.normal→Q e a w→Q' e a w) (h:o.wpIn F n P a w K Q):o.wpIn F n P a w K' Q':=by
 refine ⟨h.1,?_⟩;have h:=h.2;generalize (o.semAt F.round a.eval).run P w=r at *;cases r with
 | ok x w'=>
  cases x<;>simp only[Oper.uponIn]at h ⊢;case value=>exact hK _ _ h
  case skip=>exact hK _ _ h
  case defer=>exact hK _ _ h
  case enter f args=>
   refine ⟨h.1,CallsIn.mono h.2 fun e w'' he=>?_⟩;cases e with
   | returned v=>exact hK _ _ he
   | panicked c=>exact hQ _ _ _ (by intro h;cases h) he
   | outgrown=>obtain⟨a,w,h⟩:=he;exact ⟨a,w,hQ _ _ _ (by intro h;cases h) h⟩
  case row=>exact ⟨h.1,RowsIn.mono h.2 fun _ _ he=>hK _ _ he⟩
  case round=>
   refine ⟨h.1,RoundIn.mono h.2 fun e w'' he=>?_⟩;cases e with
   | returned v=>exact hK _ _ he
   | panicked c=>exact hQ _ _ _ (by intro h;cases h) he
   | outgrown=>obtain⟨a,w,h⟩:=he;exact ⟨a,w,hQ _ _ _ (by intro h;cases h) h⟩
 | halt x w'=>
  cases x<;>simp only[Oper.uponIn]at h ⊢;case panic=>exact hQ _ _ _ (by intro h;cases h) h
theorem Mm (hF:Free F) {done:List Nat} (i:Nat) {o:Oper} (hr:Eh l done [i]=true) (hi:l[i]?=some o) (hg:Region.wanted o (yielded l.toArray a.tmps)=true)
 (h:∀Q':Exit→Act→World→Prop,(∀a' w',S w'→Jc F n P l Q S (done++[i]) a' w'→Q' .normal a' w')→wpListIn F n P #[E4 o] Q' [E4 o] a w):Jc F n P l Q S done a w:=by
 simp only[Eh,Bool.and_eq_true,beq_iff_eq,decide_eq_true_eq]at hr;have h1:=h (fun e a' w'=>e=.normal∧S w'∧Jc F n P l Q S (done++[i]) a' w') (fun a' w' h1 h2=>⟨rfl,h1,h2⟩);unfold wpListIn at h1;rw[if_pos (by simp[Region.wanted,E4])]at h1;unfold Jc;rw[show l.length-done.length=(l.length-done.length-1)+1 by omega];refine ⟨fun h0=>(by rw[hr.1]at h0;cases h0),fun j hj=>?_⟩;rw[hr.1]at hj;obtain rfl:j=i:=by simpa using hj
 unfold wpOpIn;have aA:l.toArray[j]?=some o:=by simpa using hi
 simp only[aA];rw[if_pos hg];refine B3n (fun a' w' h2=>⟨h2.2.1,?_⟩) (fun e a' w' hne h2=>(hne h2.1).elim) (C1x h1);have h3:=h2.2.2;unfold Jc O8 at h3;rw[List.foldl_append]at h3;rw[show l.length-done.length-1=l.length-(done++[j]).length by simp;omega];exact h3
theorem A2e {done:List Nat} (hr:(Region.ready .any l.toArray (O8 l.length done)==[])=true) (h:Q .normal a w):Jc F n P l Q S done a w:=by
 unfold Jc;have aA:=by simpa using hr
 cases l.length-done.length with
 | zero=>exact ⟨aA,h⟩
 | succ k=>exact ⟨fun _=>h,fun i hi=>by rw[aA]at hi;cases hi⟩
theorem B0z (hF:Free F) {l:List Oper} (hnd:Mi l=true) {C:World→Prop} {i:Nat} {a:Act} {K:Act→Prop} {K':Act→World→Prop} {Q':Exit→Act→World→Prop} {w:World} (hC:C w) (h:∀a w',C w'→K a→K' a w') (hh:qOp P l.toArray C i K a):wpOpIn F n P l.toArray Q' i K' a w:=by
 unfold qOp at hh;unfold wpOpIn;split
 ·rename_i ho;simp only[ho]at hh;exact h _ _ hC hh
 ·rename_i o ho
  simp only[ho]at hh;split
  ·rename_i hw;simp only[hw,if_true]at hh;exact B7e hF (Ua hnd (by simpa using ho)) (Oper.wp_of_quiet hC h hh)
  ·rename_i hw;simp only[hw]at hh;exact ⟨fun f _=>hF.fn f,h _ _ hC hh⟩
theorem Uy {Q':Exit→Act→World→Prop}:∀(l:List Oper) (k:Nat) (listed:Array Bool) (a:Act) (w:World),(∀j,l[j]?=ops[k+j]?)→
 Region.seqB md ops l.length k listed=true→wpListIn F n P ops Q' l a w→wpAnyIn F n P md ops Q' l.length listed a w
 | [],_,_,_,_,_,hB,h=>⟨by simpa [Region.seqB] using hB,h⟩
 | o::l,k,listed,a,w,hl,hB,h=>by
  have h0:ops[k]?=some o:=by simpa using (hl 0).symm
  simp only[List.length_cons,Region.seqB,Bool.and_eq_true,decide_eq_true_eq]at hB;refine ⟨fun h1=>(by rw[hB.1]at h1;cases h1),fun i hi=>?_⟩;rw[hB.1]at hi;have aA:i=k:=by simpa using hi
  subst aA;have hw:wpOpIn F n P ops Q' i (wpListIn F n P ops Q' l) a w:=by unfold wpOpIn;simp only[h0];exact h
  exact wpOpIn_mono (fun a' w' h'=>Uy l (i+1) _ a' w' (fun j=>by have:=hl (j+1);simpa [Nat.add_assoc,Nat.add_comm 1 j] using this) hB.2 h') hw
theorem Qf (hF:Free F) {l:List Oper} (hnd:Mi l=true) {C:World→Prop} {m g:Nat} {L:Array Bool→Act→Prop} {Q':Exit→Act→World→Prop} (hL:∀listed a w,C w→L listed a→wpAnyIn F n P md l.toArray Q' g listed a w) :
 ∀(f:Nat) (listed:Array Bool) (a:Act) (w:World),C w→Rp P md l.toArray C m L f listed a→wpAnyIn F n P md l.toArray Q' (f+g) listed a w
 | 0,listed,a,w,hw,h=>by rw[Nat.zero_add];exact hL _ _ _ hw h
 | f+1,listed,a,w,hw,h=>by
  rw[show f+1+g=(f+g)+1 by omega];exact ⟨fun h0=>absurd h0 h.1,fun i hi=>B0z hF hnd hw (fun a' w' hw' h'=>Qf hF hnd hL f _ a' w' hw' h') (h.2 i hi).2⟩
theorem Xz (hF:Free F) (C:World→Prop) {id:Nat} (m:Nat) (hm:P.follows .mixedOrders=true) (hnd:Mi l=true) (hB:Region.lexTailB .any l.toArray m=true) (hC:C w.drew)
 (h:wpQuiet P l.toArray C (fun a'=>∀w',C w'→wpListIn F n P l.toArray Q (l.drop m) a' w') (l.take m) a):(Code.region id l.toArray true).wpIn F n P Q a w:=by
 simp only[Region.lexTailB,Bool.and_eq_true,decide_eq_true_eq]at hB;obtain⟨⟨⟨⟨aB,hn⟩,hs⟩,hc⟩,aC⟩:=hB;have aG:m<l.length:=by simpa using hn
 have aA:(l.take m).length=m:=by simp;omega
 have aE:(l.drop m).length=l.toArray.size-m:=by simp
 have aD:HeadInv .any l.toArray m (Array.replicate l.toArray.size false):=
  ⟨by simp,fun j oj _ hl=>(by rw[getD_replicate_false]at hl;cases hl),fun t _ ht=>getD_in (by simpa using ht) (getD_replicate_false _ _)⟩
 have H:=Qn (md:=.any) (g:=l.toArray.size-m) aB hs hc hn (l.take m) 0 _ a (fun j hj=>by
  have aF:j<m:=by rw[aA]at hj;exact hj
  simp[aF]) (by simpa using aA) aD (by rw[aA];exact aC) h
 refine wpIn_region_any hm ?_;have:=Qf (F:=F) (n:=n) hF hnd (Q':=Q) (g:=l.toArray.size-m) (fun listed a' w' hw' hL=>by
  have:=Uy (F:=F) (n:=n) (P:=P) (md:=.any) (Q':=Q) (l.drop m) m listed a' w' (fun j=>by simp[List.getElem?_drop]) (by rw[aE];exact hL.1) (hL.2 w' hw');rwa [aE]at this) _ _ _ _ hC H
 rw[aA,show m+(l.toArray.size-m)=l.toArray.size by omega]at this;exact this
end
end
section
attribute [local go_sem] Oper.semAt_some
theorem A7p {F:Fence} (hd:F.depth=none) (k:Nat):F.room k:=fun d h=>by rw[hd]at h;cases h
theorem A3m {F:Fence} (hd:F.depth=none) {m m':Nat} {P:Program} {l:Nat} {f:FuncId} {tmps:Array Value} {assign body:Code} {w:World} {R:Ending→World→Prop}
 (h:RoundIn F m P l f tmps assign body w R):RoundIn F m' P l f tmps assign body w R:=⟨h.1,fun c cs _=>h.2 c cs (A7p hd _)⟩
theorem Rx {F:Fence} (hd:F.depth=none) {m:Nat} (m':Nat) {P:Program} {l:Nat} {args:Array Value} {W:World} {R:Ending→World→Prop} (h:YieldAt F m P l args W R):YieldAt F m' P l args W R:=by
 obtain⟨fn,tmps,aA,aB,hy,hR⟩:=h;exact ⟨fn,tmps,aA,aB,hy,A3m hd hR⟩
abbrev PrS := {p : Pr // Jh p}
def C7u (x:PrS):Array Value:=#[A8 x.1.1,A8 x.1.2]
open Classical in
noncomputable def Tr.prs:Tr→List PrS
 | .e=>[]
 | .lf k v=>if h:Jh (k,v) then [⟨(k,v),h⟩] else []
 | .nd l r=>l.prs++r.prs
theorem Rl:∀ {t:Tr} {d:Nat} {P:Nat→Bool},Ok d P t→t.prs.map (·.1)=t.pairs
 | .e,_,_,_=>rfl
 | .lf k v,_,_,ok=>by
  have h:Jh (k,v):=⟨ok.1,ok.2.1⟩;simp[Tr.prs,Tr.pairs,h]
 | .nd l r,_,_,ok=>by simp only[Tr.prs,Tr.pairs,List.map_append,Rl ok.2.2.1,Rl ok.2.2.2]
theorem hdw (k:Nat):Fence.wide.depth.isSome=true→1≤k:=fun h=>by cases h
theorem C5b (p0 dd:Value) (w:World) (n:Nat) :
 CallsIn Fence.wide n Tryz.prog 49 #[.agg #[p0,dd]] w fun e w'=>e=.returned (.func (.func 71) #[] #[.pointer (some ⟨w.heap.size,0,none⟩)])∧w'=w.alloc (.cells #[p0,dd] 31):=by
 refine callsIn_of_wp Tryz.func49 rfl trivial ?_ rfl;simp only[Tryz.ntmps49,List.size_toArray,List.length_cons,List.length_nil,Nat.reduceAdd,Nat.reduceSub,Array.replicate_succ,Array.replicate_zero,List.push_toArray,List.append_toArray,List.nil_append,List.cons_append];gi_wp2
 go_ret;exact ⟨rfl,rfl⟩
end
end Go.Proofs.YtlegpkdighoflaaGreat
