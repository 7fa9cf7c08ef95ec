/- A part of the proof of AuditTells. -/
import Derived.OrdersIn
import Derived.RangeFuncCalls
import Derived.CallsIn
import Derived.TacticsInMore
import Derived.OwnWalkIn
import Derived.Sort.QuietThIn
import Derived.RangeFuncNested
import Derived.RangeFuncBound
import Derived.RangeFuncLeaves
import Derived.RangeFuncKeeps
import Derived.Shelf.Abstract
import Derived.Shelf.RegionOpen
import Derived.WalkKit
import Derived.Outline
import Derived.Maps.OwnSet
import Derived.Maps.OwnIn
import Derived.WideKeyArr
import Derived.Test.YtmllnpokbbabhaaGreatTav
set_option linter.unusedVariables false
set_option linter.unusedSimpArgs false
set_option maxRecDepth 100000
set_option maxHeartbeats 40000000
namespace Go.Proofs.YtmllnpokbbabhaaGreat
open Go Go.RowKit Sh
section
structure Free (F : Fence) : Prop where
 fn:∀f,F.fn f
 depth:F.depth=none
 calls:∀ {n:Nat} {P:Program} {f:FuncId} {args:Array Value} {w:World} {R:Ending→World→Prop},Calls P f args w R→CallsIn F n P f args w R
 rows:∀ {n:Nat} {P:Program} {r:String} {args:Array Value} {w:World} {R:Value→World→Prop},Rows P r args w R→RowsIn F n P r args w R
theorem A5k:Free Fence.wide:=⟨fun _=>trivial,rfl,fun h=>callsIn_wide.2 h,fun h c cs hr=>by
 obtain⟨v,w',a,b⟩:=h c cs;exact ⟨v,w',a,stepsIn_wide.2 b⟩⟩
theorem Fp (l:Nat):Free (Fence.wide.inRound l):=⟨fun _=>trivial,rfl,fun h=>CallsIn.inRound l (callsIn_wide.2 h),fun {n} {P} {r} {args} {w} {R} h=>A5k.rows (n:=n) h⟩
theorem C5x {F:Fence} {n:Nat} {P:Program} {o:Oper} {a:Act} {w:World} {K:Act→World→Prop} {Q:Exit→Act→World→Prop} (h:(C6 o).wpIn F n P a w K Q):o.wpIn F n P a w K Q:=h
section
variable {F : Fence} {n : Nat} {P : Program} {ops : Array Oper} {md : Region.Mode} {S : World → Prop}
theorem B0m (hF:Free F) {o:Oper} {a:Act} {w:World} {K:Act→World→Prop} {Q:Exit→Act→World→Prop} (hd:∀c,o.op≠.defer c) (h:o.wp P a w K Q):o.wpIn F n P a w K Q:=by
 refine ⟨fun f _=>hF.fn f,?_⟩;rw[Oper.semAt_eq F.round a.eval o hd];unfold Oper.wp at h;have aA:∀k:Nat,(F.depth.isSome=true→1≤k):=fun k h=>by rw[hF.depth]at h;cases h
 generalize (execOp a.eval o).run P w=r at *;cases r with
 | ok x w'=>
  cases x<;>simp only[Oper.upon,Oper.uponIn]at h ⊢<;>
   first
    | exact h
    | exact ⟨aA _,hF.calls h⟩
    | exact ⟨aA _,hF.rows h⟩
    | exact h.elim
 | halt x w'=>cases x<;>simp only[Oper.upon,Oper.uponIn]at h ⊢<;>exact h
def Lu (l:List Oper):Bool:=l.all fun o=>match o.op with | .defer _=>false | _=>true
theorem Tp {l:List Oper} (h:Lu l=true) {i:Nat} {o:Oper} (hi:l[i]?=some o):∀c,o.op≠.defer c:=by
 intro c e;have:=List.all_eq_true.1 h o (List.mem_of_getElem? hi);rw[e]at this;cases this
theorem V7.opIn (hF:Free F) {i:Nat} {o:Oper} {v:Value} {a:Act} {K:Act→World→Prop} {Q:Exit→Act→World→Prop} {w:World} (hd:∀c,o.op≠.defer c) (hy:V7 P ops S o v a) (hi:ops[i]?=some o) (hS:S w) (h:K (a.put o.dst v) w):wpOpIn F n P ops Q i K a w:=by
 unfold wpOpIn;simp only[hi];rcases hy with ⟨hw,hv⟩ | ⟨hw,rfl⟩
 ·rw[if_pos hw];exact B0m hF hd (Oper.wp_of_quiet (C:=fun w'=>w'=w) (K:=fun a'=>K a' w) rfl (fun a' w' hw' hK=>by rw[hw'];exact hK) ⟨v,fun w' hw'=>by rw[hw'];exact hv w hS,h⟩)
 ·rw[if_neg (by rw[hw];simp)];exact ⟨fun f _=>hF.fn f,h⟩
theorem A1b (hF:Free F) {j:Nat} {oi oj:Oper} {v:Value} {Q:Exit→Act→World→Prop} (hdj:∀c,oj.op≠.defer c) (hj:ops[j]?=some oj) (hap:oi.apart ops oj=true) (hsi:∀cs b,oi.op≠.select cs b) (hsj:∀cs b,oj.op≠.select cs b)
 (hQ:∀c a a' w,Q (.panic c) a w→Q (.panic c) a' w) {K:Act→World→Prop} {a:Act} {w:World} (hy:V7 P ops S oi v a) (h:wpOpIn F n P ops Q j K (a.put oi.dst v) w) :
 wpOpIn F n P ops Q j (fun a' w'=>V7 P ops S oi v a'∧K (a'.put oi.dst v) w') a w:=by
 obtain⟨h1,h2,h3⟩:=Oper.apart_spec hap;have stays:∀(b:Act) (u:Value),V7 P ops S oi v b→V7 P ops S oi v (b.put oj.dst u):=fun b u hb=>
  hb.alike (execOp_put oi hsi b oj.dst u h3) (wanted_put oi b oj.dst u h3)
 have aA:∀(b:Act) (u:Value) (w:World),K ((b.put oi.dst v).put oj.dst u) w→K ((b.put oj.dst u).put oi.dst v) w:=fun b u w hk=>by
  rw[←Act.put_comm b v u h2];exact hk
 unfold wpOpIn at *;simp only[hj]at *;rw[wanted_put oj a oi.dst v h1]at h;by_cases hw:Region.wanted oj (yielded ops a.tmps)=true
 ·rw[if_pos hw]at h ⊢;refine ⟨fun f _=>hF.fn f,?_⟩;have h:=h.2;rw[Oper.semAt_eq F.round _ oj hdj]at h ⊢;rw[execOp_put oj hsj a oi.dst v h1]at h;generalize (execOp a.eval oj).run P w=r at *;cases r with
  | ok x w'=>
   cases x<;>simp only[Oper.uponIn]at h ⊢;case value u=>exact ⟨stays a u hy,aA _ _ _ h⟩
   case skip=>exact ⟨stays a _ hy,aA _ _ _ h⟩
   case defer d=>exact ⟨stays _ _ (V7.alike (a:=a) hy rfl rfl),aA _ _ _ (by rw[←Act.put_defers];exact h)⟩
   case enter f args=>
    refine ⟨h.1,CallsIn.mono h.2 fun e w'' he=>?_⟩;cases e with
    | returned u=>exact ⟨stays a u hy,aA _ _ _ he⟩
    | panicked c=>exact hQ _ _ _ _ he
    | outgrown=>exact he
   case row row args=>exact ⟨h.1,RowsIn.mono h.2 fun u w'' he=>⟨stays a u hy,aA _ _ _ he⟩⟩
   case round l f tmps assign body=>
    refine ⟨h.1,RoundIn.mono h.2 fun e w'' he=>?_⟩;cases e with
    | returned u=>exact ⟨stays a u hy,aA _ _ _ he⟩
    | panicked c=>exact hQ _ _ _ _ he
    | outgrown=>exact he
  | halt x w'=>
   cases x<;>simp only[Oper.uponIn]at h ⊢;case panic u=>exact hQ _ _ _ _ h
 ·rw[if_neg hw]at h ⊢;exact ⟨fun f _=>hF.fn f,stays a _ hy,aA _ _ _ h.2⟩
def Iu (F:Fence) (n:Nat) (P:Program) (md:Region.Mode) (ops:Array Oper) (Q:Exit→Act→World→Prop) (S:World→Prop):Nat→Array Bool→Act→World→Prop
 | 0,listed,a,w=>Region.ready md ops listed=[]∧Q .normal a w
 | fuel+1,listed,a,w=>
  (Region.ready md ops listed=[]→Q .normal a w)∧
  ∀i∈Region.ready md ops listed,wpOpIn F n P ops Q i (fun a' w'=>S w'∧Iu F n P md ops Q S fuel (listed.setIfInBounds i true) a' w') a w
theorem Sj {Q:Exit→Act→World→Prop}:∀(fuel:Nat) (listed:Array Bool) (a:Act) (w:World),Iu F n P md ops Q S fuel listed a w→wpAnyIn F n P md ops Q fuel listed a w
 | 0,_,_,_,h=>h
 | fuel+1,_,_,_,h=>⟨h.1,fun i hi=>wpOpIn_mono (fun a' w' h'=>Sj fuel _ a' w' h'.2) (h.2 i hi)⟩
theorem Sm (hF:Free F) {l:List Oper} (hnd:Lu l=true) {i:Nat} {oi:Oper} {v:Value} {Q:Exit→Act→World→Prop} (hi:l.toArray[i]?=some oi) (hsel:∀(j:Nat) (o:Oper) cs b,l.toArray[j]?=some o→o.op≠.select cs b) (hQ:∀c a a' w,Q (.panic c) a w→Q (.panic c) a' w) :
 ∀(fuel:Nat) (listed:Array Bool) (a:Act) (w:World),
  (∀j oj,l.toArray[j]?=some oj→j≠i→listed.getD j true=false→(∀e∈oj.after,Region.binds md e=true→e.on≠i)→oi.apart l.toArray oj=true)→
  i∈Region.ready md l.toArray listed→V7 P l.toArray S oi v a→S w→
  Iu F n P md l.toArray Q S fuel (listed.setIfInBounds i true) (a.put oi.dst v) w→Iu F n P md l.toArray Q S (fuel+1) listed a w
 | fuel,listed,a,w,hfree,hr,hy,hS,H=>by
  refine ⟨fun h=>(by rw[h]at hr;cases hr),fun j hj=>?_⟩;by_cases hji:j=i
  ·subst hji;exact hy.opIn hF (Tp hnd (by simpa using hi)) hi hS ⟨hS,H⟩
  ·cases fuel with
   | zero=>have:=ready_mono hj hji;rw[H.1]at this;cases this
   | succ fuel=>
    obtain⟨aA,oj,aB,aC⟩:=mem_ready.1 hj;have aE:=(mem_ready.1 hr).1;have aD:∀e∈oj.after,Region.binds md e=true→e.on≠i:=fun e he hb heq=>by
     have h1:=aC e he hb;rw[heq,getD_both aE]at h1;cases h1
    refine wpOpIn_mono (fun a' w' h3=>⟨h3.2.1,Sm hF hnd hi hsel hQ fuel (listed.setIfInBounds j true) a' w' (fun k ok hk hki hkun hno=>?_) (ready_mono hr (Ne.symm hji)) h3.1 h3.2.1 ?_⟩) (A1b hF (Tp hnd (by simpa using aB)) aB (hfree j oj aB hji aA aD) (fun cs b=>hsel i oi cs b hi) (fun cs b=>hsel j oj cs b aB) hQ hy (H.2 j (ready_mono hj hji)))
    ·refine hfree k ok hk hki ?_ hno;by_cases hjk:j=k
     ·subst hjk;exact aA
     ·rw[getD_set_ne true hjk]at hkun;exact hkun
    ·rw[Array.setIfInBounds_comm _ _ hji];exact h3.2.2
variable {l : List Oper} {Q : Exit → Act → World → Prop} {a : Act} {w : World}
theorem Kq (hF:Free F) (hnd:Lu l=true):∀(qs:List Nat) (lq:List Oper) (fuel:Nat) (listed:Array Bool) (a:Act) (w:World),pick l qs=lq→lq.length=qs.length→Region.noSelect l.toArray=true→(Aw md l.toArray listed qs).2=true→S w→
 (∀c a a' w,Q (.panic c) a w→Q (.panic c) a' w)→
 Tn P l.toArray S (fun a'=>Iu F n P md l.toArray Q S fuel (Aw md l.toArray listed qs).1 a' w) lq a→Iu F n P md l.toArray Q S (fuel+qs.length) listed a w
 | [],lq,fuel,listed,a,w,hp,_,_,hB,hS,_,h=>by subst hp;exact h
 | i::is,lq,fuel,listed,a,w,hp,hl,hs,hB,hS,hQ,h=>by
  simp only[Aw,Bool.and_eq_true]at hB;obtain⟨⟨hr,hf⟩,hB⟩:=hB;simp only[pick]at hp;cases hi:l[i]? with
  | none=>rw[hi]at hp;subst hp;simp at hl
  | some o=>
   rw[hi]at hp;subst hp;obtain⟨v,hy,h⟩:=h;have aA:l.toArray[i]?=some o:=by simpa using hi
   exact Sm hF hnd aA (Region.noSelect_spec hs) hQ _ _ _ _ (Region.free_spec aA hf) (by simpa using hr) hy hS (Kq hF hnd is _ fuel _ _ w rfl (by simpa using hl) hs hB hS hQ h)
def Je (F:Fence) (n:Nat) (P:Program) (l:List Oper) (Q:Exit→Act→World→Prop) (S:World→Prop) (done:List Nat) (a:Act) (w:World):Prop:=
 Iu F n P .any l.toArray (Wn Q) S (l.length-done.length) (F2 l.length done) a w
theorem B0p (S:World→Prop) {id:Nat} (hm:P.follows .mixedOrders=true) (h:Je F n P l Q S [] a w.drew):(Code.region id l.toArray true).wpIn F n P Q a w:=by
 refine wpIn_mono (wpIn_region_any (Q:=Wn Q) hm ?_) Vj;have e:l.toArray.size=l.length:=by simp
 rw[e];exact Sj _ _ _ _ h
theorem A8n (hF:Free F) (hnd:Lu l=true) {done:List Nat} (qs:List Nat) {lq:List Oper} (hs:Region.noSelect l.toArray=true) (h1:(Aw .any l.toArray (F2 l.length done) qs).2=true)
 (hq:pick l qs=lq) (hn:(lq.length==qs.length&&decide (done.length+qs.length≤l.length))=true) (hd:Dh a.tmps.size lq=true) (hS:S w)
 (A:Act) (h:∀W,S W→wpQuiet P l.toArray (fun w'=>w'=W) (fun a'=>a'=A) lq a) (hr:Je F n P l Q S (done++qs) A w):Je F n P l Q S done a w:=by
 simp only[Bool.and_eq_true,beq_iff_eq]at hn;unfold Je at *;have aA:=of_decide_eq_true hn.2;rw[show l.length-done.length=(l.length-(done++qs).length)+qs.length by simp;omega];refine Kq hF hnd qs lq _ _ a w hq hn.1 hs h1 hS (fun _ _ _ _ h=>h) (Fy (fun a' ha=>?_) lq a (Ce w hS lq a hd h));subst ha;rw[Jk];unfold F2 at hr ⊢;rw[List.foldl_append]at hr;exact hr
theorem A3u {o:Oper} {a:Act} {w:World} {K K':Act→World→Prop} {Q Q':Exit→Act→World→Prop} (hK:∀a w,K a w→K' a w) (hQ:∀e a w,e≠.normal→Q e a w→Q' e a w) (h:o.wpIn F n P a w K Q):o.wpIn F n P a w K' Q':=by
 refine ⟨h.1,?_⟩;have h:=h.2;generalize (o.semAt F.round a.eval).run P w=r at *;cases r with
 | ok x w'=>
  cases x<;>simp only[Oper.uponIn]at h ⊢;case value=>exact hK _ _ h
  case skip=>exact hK _ _ h
  case defer=>exact hK _ _ h
  case enter f args=>
   refine ⟨h.1,CallsIn.mono h.2 fun e w'' he=>?_⟩;cases e with
   | returned v=>exact hK _ _ he
   | panicked c=>exact hQ _ _ _ (by intro h;cases h) he
   | outgrown=>obtain⟨a,w,h⟩:=he;exact ⟨a,w,hQ _ _ _ (by intro h;cases h) h⟩
  case row=>exact ⟨h.1,RowsIn.mono h.2 fun _ _ he=>hK _ _ he⟩
  case round=>
   refine ⟨h.1,RoundIn.mono h.2 fun e w'' he=>?_⟩;cases e with
   | returned v=>exact hK _ _ he
   | panicked c=>exact hQ _ _ _ (by intro h;cases h) he
   | outgrown=>obtain⟨a,w,h⟩:=he;exact ⟨a,w,hQ _ _ _ (by intro h;cases h) h⟩
 | halt x w'=>
  cases x<;>simp only[Oper.uponIn]at h ⊢;case panic=>exact hQ _ _ _ (by intro h;cases h) h
theorem Lo (hF:Free F) {done:List Nat} (i:Nat) {o:Oper} (hr:Z8 l done [i]=true) (hi:l[i]?=some o) (hg:Region.wanted o (yielded l.toArray a.tmps)=true)
 (h:∀Q':Exit→Act→World→Prop,(∀a' w',S w'→Je F n P l Q S (done++[i]) a' w'→Q' .normal a' w')→wpListIn F n P #[C6 o] Q' [C6 o] a w):Je F n P l Q S done a w:=by
 simp only[Z8,Bool.and_eq_true,beq_iff_eq,decide_eq_true_eq]at hr;have h1:=h (fun e a' w'=>e=.normal∧S w'∧Je F n P l Q S (done++[i]) a' w') (fun a' w' h1 h2=>⟨rfl,h1,h2⟩);unfold wpListIn at h1;rw[if_pos (by simp[Region.wanted,C6])]at h1;unfold Je;rw[show l.length-done.length=(l.length-done.length-1)+1 by omega];refine ⟨fun h0=>(by rw[hr.1]at h0;cases h0),fun j hj=>?_⟩;rw[hr.1]at hj;obtain rfl:j=i:=by simpa using hj
 unfold wpOpIn;have aA:l.toArray[j]?=some o:=by simpa using hi
 simp only[aA];rw[if_pos hg];refine A3u (fun a' w' h2=>⟨h2.2.1,?_⟩) (fun e a' w' hne h2=>(hne h2.1).elim) (C5x h1);have h3:=h2.2.2;unfold Je F2 at h3;rw[List.foldl_append]at h3;rw[show l.length-done.length-1=l.length-(done++[j]).length by simp;omega];exact h3
theorem A2g {done:List Nat} (hr:(Region.ready .any l.toArray (F2 l.length done)==[])=true) (h:Q .normal a w):Je F n P l Q S done a w:=by
 unfold Je;have aA:=by simpa using hr
 cases l.length-done.length with
 | zero=>exact ⟨aA,h⟩
 | succ k=>exact ⟨fun _=>h,fun i hi=>by rw[aA]at hi;cases hi⟩
theorem B4f (hF:Free F) {l:List Oper} (hnd:Lu l=true) {C:World→Prop} {i:Nat} {a:Act} {K:Act→Prop} {K':Act→World→Prop} {Q':Exit→Act→World→Prop} {w:World} (hC:C w) (h:∀a w',C w'→K a→K' a w') (hh:qOp P l.toArray C i K a):wpOpIn F n P l.toArray Q' i K' a w:=by
 unfold qOp at hh;unfold wpOpIn;split
 ·rename_i ho;simp only[ho]at hh;exact h _ _ hC hh
 ·rename_i o ho
  simp only[ho]at hh;split
  ·rename_i hw;simp only[hw,if_true]at hh;exact B0m hF (Tp hnd (by simpa using ho)) (Oper.wp_of_quiet hC h hh)
  ·rename_i hw;simp only[hw]at hh;exact ⟨fun f _=>hF.fn f,h _ _ hC hh⟩
theorem Vz {Q':Exit→Act→World→Prop}:∀(l:List Oper) (k:Nat) (listed:Array Bool) (a:Act) (w:World),(∀j,l[j]?=ops[k+j]?)→
 Region.seqB md ops l.length k listed=true→wpListIn F n P ops Q' l a w→wpAnyIn F n P md ops Q' l.length listed a w
 | [],_,_,_,_,_,hB,h=>⟨by simpa [Region.seqB] using hB,h⟩
 | o::l,k,listed,a,w,hl,hB,h=>by
  have h0:ops[k]?=some o:=by simpa using (hl 0).symm
  simp only[List.length_cons,Region.seqB,Bool.and_eq_true,decide_eq_true_eq]at hB;refine ⟨fun h1=>(by rw[hB.1]at h1;cases h1),fun i hi=>?_⟩;rw[hB.1]at hi;have aA:i=k:=by simpa using hi
  subst aA;have hw:wpOpIn F n P ops Q' i (wpListIn F n P ops Q' l) a w:=by unfold wpOpIn;simp only[h0];exact h
  exact wpOpIn_mono (fun a' w' h'=>Vz l (i+1) _ a' w' (fun j=>by have:=hl (j+1);simpa [Nat.add_assoc,Nat.add_comm 1 j] using this) hB.2 h') hw
theorem Pp (hF:Free F) {l:List Oper} (hnd:Lu l=true) {C:World→Prop} {m g:Nat} {L:Array Bool→Act→Prop} {Q':Exit→Act→World→Prop} (hL:∀listed a w,C w→L listed a→wpAnyIn F n P md l.toArray Q' g listed a w) :
 ∀(f:Nat) (listed:Array Bool) (a:Act) (w:World),C w→Rl P md l.toArray C m L f listed a→wpAnyIn F n P md l.toArray Q' (f+g) listed a w
 | 0,listed,a,w,hw,h=>by rw[Nat.zero_add];exact hL _ _ _ hw h
 | f+1,listed,a,w,hw,h=>by
  rw[show f+1+g=(f+g)+1 by omega];exact ⟨fun h0=>absurd h0 h.1,fun i hi=>B4f hF hnd hw (fun a' w' hw' h'=>Pp hF hnd hL f _ a' w' hw' h') (h.2 i hi).2⟩
theorem Zq (hF:Free F) (C:World→Prop) {id:Nat} (m:Nat) (hm:P.follows .mixedOrders=true) (hnd:Lu l=true) (hB:Region.lexTailB .any l.toArray m=true) (hC:C w.drew)
 (h:wpQuiet P l.toArray C (fun a'=>∀w',C w'→wpListIn F n P l.toArray Q (l.drop m) a' w') (l.take m) a):(Code.region id l.toArray true).wpIn F n P Q a w:=by
 simp only[Region.lexTailB,Bool.and_eq_true,decide_eq_true_eq]at hB;obtain⟨⟨⟨⟨aB,hn⟩,hs⟩,hc⟩,aC⟩:=hB;have aG:m<l.length:=by simpa using hn
 have aA:(l.take m).length=m:=by simp;omega
 have aE:(l.drop m).length=l.toArray.size-m:=by simp
 have aD:HeadInv .any l.toArray m (Array.replicate l.toArray.size false):=
  ⟨by simp,fun j oj _ hl=>(by rw[getD_replicate_false]at hl;cases hl),fun t _ ht=>getD_in (by simpa using ht) (getD_replicate_false _ _)⟩
 have H:=Ot (md:=.any) (g:=l.toArray.size-m) aB hs hc hn (l.take m) 0 _ a (fun j hj=>by
  have aF:j<m:=by rw[aA]at hj;exact hj
  simp[aF]) (by simpa using aA) aD (by rw[aA];exact aC) h
 refine wpIn_region_any hm ?_;have:=Pp (F:=F) (n:=n) hF hnd (Q':=Q) (g:=l.toArray.size-m) (fun listed a' w' hw' hL=>by
  have:=Vz (F:=F) (n:=n) (P:=P) (md:=.any) (Q':=Q) (l.drop m) m listed a' w' (fun j=>by simp[List.getElem?_drop]) (by rw[aE];exact hL.1) (hL.2 w' hw');rwa [aE]at this) _ _ _ _ hC H
 rw[aA,show m+(l.toArray.size-m)=l.toArray.size by omega]at this;exact this
end
end
section
attribute [local go_sem] Oper.semAt_some
theorem A9h {F:Fence} (hd:F.depth=none) (k:Nat):F.room k:=fun d h=>by rw[hd]at h;cases h
theorem A4n {F:Fence} (hd:F.depth=none) {m m':Nat} {P:Program} {l:Nat} {f:FuncId} {tmps:Array Value} {assign body:Code} {w:World} {R:Ending→World→Prop}
 (h:RoundIn F m P l f tmps assign body w R):RoundIn F m' P l f tmps assign body w R:=⟨h.1,fun c cs _=>h.2 c cs (A9h hd _)⟩
theorem Sn {F:Fence} (hd:F.depth=none) {m:Nat} (m':Nat) {P:Program} {l:Nat} {args:Array Value} {W:World} {R:Ending→World→Prop} (h:YieldAt F m P l args W R):YieldAt F m' P l args W R:=by
 obtain⟨fn,tmps,aA,aB,hy,hR⟩:=h;exact ⟨fn,tmps,aA,aB,hy,A4n hd hR⟩
abbrev PrS := {p : Pr // Si p}
def C8x (x:PrS):Array Value:=#[A8 x.1.1,A8 x.1.2]
open Classical in
noncomputable def Tr.prs:Tr→List PrS
 | .e=>[]
 | .lf k v=>if h:Si (k,v) then [⟨(k,v),h⟩] else []
 | .nd l r=>l.prs++r.prs
theorem Qy:∀ {t:Tr} {d:Nat} {P:Nat→Bool},Ok d P t→t.prs.map (·.1)=t.pairs
 | .e,_,_,_=>rfl
 | .lf k v,_,_,ok=>by
  have h:Si (k,v):=⟨ok.1,ok.2.1⟩;simp[Tr.prs,Tr.pairs,h]
 | .nd l r,_,_,ok=>by simp only[Tr.prs,Tr.pairs,List.map_append,Qy ok.2.2.1,Qy ok.2.2.2]
theorem hdw (k:Nat):Fence.wide.depth.isSome=true→1≤k:=fun h=>by cases h
theorem D1c (p0 dd:Value) (w:World) (n:Nat) :
 CallsIn Fence.wide n Tryz.prog 97 #[.agg #[p0,dd]] w fun e w'=>e=.returned (.func (.func 140) #[] #[.pointer (some ⟨w.heap.size,0,none⟩)])∧w'=w.alloc (.cells #[p0,dd] 31):=by
 refine callsIn_of_wp Tryz.func97 rfl trivial ?_ rfl;simp only[Tryz.ntmps97,List.size_toArray,List.length_cons,List.length_nil,Nat.reduceAdd,Nat.reduceSub,Array.replicate_succ,Array.replicate_zero,List.push_toArray,List.append_toArray,Nw];gi_wp2
 go_ret;exact ⟨rfl,rfl⟩
end
section
@[go_sem ↓ high] theorem A3n {P : Program} {w : World} (l : Nat) (ρ : Operand → Value) (o : Oper) (h : (match o.op with | .defer _ => false | _ => true) = true) : (Oper.semAt (some l) ρ o).run P w = (execOp ρ o).run P w := by
 rw[Oper.semAt_eq];intro c e;rw[e]at h;cases h
@[go_sem ↓ high] theorem C0r {P : Program} {w : World} (F : Fence) (l : Nat) (ρ : Operand → Value) (o : Oper) (h : (match o.op with | .defer _ => false | _ => true) = true) : (Oper.semAt (F.inRound l).round ρ o).run P w = (execOp ρ o).run P w := A3n l ρ o h
attribute [local go_sem] Oper.semAt_some
theorem Bv {A B:World} {row:Option Nat} {g:Nat} {t:TypeId} {cs:List Value} (h:Bk A g t cs) (hg:A.grownBy B row) (hr:∀r,row=some r→∃o:Obj,A.heap[r]?=some o∧o.isCells=false):Bk B g t cs:=by
 refine h.grown hg fun e=>?_;obtain⟨o,ho,hc⟩:=hr g e.symm;unfold Bk at h;rw[h]at ho;injection ho with ho;subst ho;cases hc
end
section
attribute [local go_sem] Oper.semAt_some
theorem D9k {F:Fence} {n:Nat} {P:Program} {ops:Array Oper} {Q:Exit→Act→World→Prop} {o:Oper} {rest:List Oper} {a:Act} {w:World} (hF:Free F) (hg:o.guard=none) (hd:∀c,o.op≠.defer c)
 (h:∀Q':Exit→Act→World→Prop,(∀a' w',wpListIn F n P ops Q rest a' w'→Q' .normal a' w')→wpList P #[o] Q' [o] a w):wpListIn F n P ops Q (o::rest) a w:=by
 have h1:=h (fun e a' w'=>e=.normal∧wpListIn F n P ops Q rest a' w') (fun a' w' h1=>⟨rfl,h1⟩);unfold wpList at h1;rw[if_pos (by simp[Region.wanted,hg])]at h1;unfold wpListIn;rw[if_pos (by simp[Region.wanted,hg])];rcases h1 with h1 | ⟨_,a,w,h2,_⟩
 ·exact A3u (fun a' w' h2=>h2.2) (fun e a' w' hne h2=>(hne h2.1).elim) (B0m hF hd h1)
 ·cases h2
theorem B2s (t:Tr) (p:Value) (d:Int) (w:World) (h:At w w.heap.size t p) (hl:t.len≠1) :
 Calls Tryz.prog 123 #[.agg #[p,.int .i64 d]] w fun e w'=>e=.returned (.tuple #[A8 (z8 32),A8 (z8 32),.bool false])∧Below w.heap.size w w':=by
 obtain⟨ap,rfl⟩:=h.form;have aB:((t.len:Int) != 1)=true:=by rw[bne_iff_ne];omega
 go_enter Tryz.func123,Tryz.ntmps123;go_wp2_with fail;obtain⟨w0,aA⟩:=D9 (((w.alloc (Obj.cells #[.pointer ap,.int .i64 d] 31)).alloc (Obj.cells (c8 (z8 32)).toArray 40)).alloc (Obj.cells (c8 (z8 32)).toArray 40));rw[←aA];have B0:Below w.heap.size w w0:=by rw[aA];exact ((U7 _ _).alloc (by simp) _).alloc (by simp;omega) _
 have L0:Bk w0 (w.heap.size+1) 40 (c8 (z8 32)):=by rw[aA];exact (by simpa using Bk.new (w.alloc (Obj.cells #[.pointer ap,.int .i64 d] 31)) 40 (c8 (z8 32)):Bk _ _ _ _).alloc _
 have R0:Bk w0 (w.heap.size+1+1) 40 (c8 (z8 32)):=by rw[aA];simpa using Bk.new ((w.alloc (Obj.cells #[.pointer ap,.int .i64 d] 31)).alloc (Obj.cells (c8 (z8 32)).toArray 40)) 40 (c8 (z8 32))
 clear aA;refine (Gc t _ d w0 ((h.below B0).more B0.size)).mono ?_;rintro e w1 ⟨rfl,h1⟩;have L1:=L0.bl h1;have R1:=R0.bl h1;have B1:=X4 B0 h1;have aC:=Nn 32 L1 (by simp);have aD:=Nn 32 R1 (by simp);go_wp2_with fail;have La:=(L1.puts (vs:=c8 (z8 32)) (by simp)).putFar (p:=⟨w.heap.size+1+1,0,none⟩) (by simp) (c8 (z8 32));have Ra:=(R1.putFar (p:=⟨w.heap.size+1,0,none⟩) (by simp) (c8 (z8 32))).puts (vs:=c8 (z8 32)) (by simp);exact bodyPost_ret (H8 rfl (C5.row La rfl _ Tryz.underlying40 rfl (by simp[H9])) (C5.row Ra rfl _ Tryz.underlying40 rfl (by simp[H9])) (C5.tmp rfl)) rfl
  ⟨rfl,C0 (C0 B1 (by simp) _) (by simp;omega) _⟩
theorem C4f (k v:List UInt8) (p:Value) (d:Int) (w:World) (h:At w w.heap.size (.lf k v) p) :
 Calls Tryz.prog 123 #[.agg #[p,.int .i64 d]] w fun e w'=>e=.returned (.tuple #[A8 k,A8 v,.bool true])∧Below w.heap.size w w':=by
 have aB:=h;obtain⟨g,rfl,hg,hk,hv,hb⟩:=h;go_enter Tryz.func123,Tryz.ntmps123;go_wp2_with fail;obtain⟨w0,aA⟩:=D9 (((w.alloc (Obj.cells #[.pointer (some ⟨g,0,none⟩),.int .i64 d] 31)).alloc (Obj.cells (c8 (z8 32)).toArray 40)).alloc (Obj.cells (c8 (z8 32)).toArray 40));rw[←aA];have B0:Below w.heap.size w w0:=by rw[aA];exact ((U7 _ _).alloc (by simp) _).alloc (by simp;omega) _
 have T0:Bk w0 w.heap.size 31 [.pointer (some ⟨g,0,none⟩),.int .i64 d]:=by rw[aA];exact ((Bk.new w _ [.pointer (some ⟨g,0,none⟩),.int .i64 d]).alloc _).alloc _
 have L0:Bk w0 (w.heap.size+1) 40 (c8 (z8 32)):=by rw[aA];exact (by simpa using Bk.new (w.alloc (Obj.cells #[.pointer (some ⟨g,0,none⟩),.int .i64 d] 31)) 40 (c8 (z8 32)):Bk _ _ _ _).alloc _
 have R0:Bk w0 (w.heap.size+1+1) 40 (c8 (z8 32)):=by rw[aA];simpa using Bk.new ((w.alloc (Obj.cells #[.pointer (some ⟨g,0,none⟩),.int .i64 d] 31)).alloc (Obj.cells (c8 (z8 32)).toArray 40)) 40 (c8 (z8 32))
 clear aA;refine (Gc (.lf k v) _ d w0 ((aB.below B0).more B0.size)).mono ?_;rintro e w1 ⟨rfl,h1⟩;have T1:=T0.bl h1;have L1:=L0.bl h1;have R1:=R0.bl h1;have B1:=X4 B0 h1;have N1:=hb.below B1 hg;dsimp only[Tr.len];clear h1 aB hb T0 L0 R0 B0;go_wp2_with fail;refine Qd (A:=?A) (fun W=>Below (w.heap.size+1) w1 W) [0,1,2,3,4,5,6,7,8,9] [10,11,12] (by kernel_rfl) (by kernel_rfl) (by kernel_rfl) (by kernel_rfl) rfl rfl (by kernel_rfl) (by kernel_rfl) ?rS (fun W hW=>?rh) (fun hS=>?rt);case rS=>exact (Below.refl _ _).drew
 case rh=>have T2:=T1.below hW (by omega);have N2:=N1.below hW (by omega);have c0:W.cell? ⟨w.heap.size,0,none⟩=some (.pointer (some ⟨g,0,none⟩)):=T2.at_ rfl;have aC:=Wg N2 hk;have aD:=A0w N2 hk hv;clear T2 N2;exact Fa
 case rt=>
  simp only[pick,Se];have S1:Below (w.heap.size+1) w1 w1.drew:=(Below.refl _ _).drew;have aE:=Nn 32 L1 (by simp);have aF:=Nn 32 R1 (by simp);refine E9 (by rfl) (fun Q' hQ'=>?_);go_wp2_with fail;have S2:=C0 S1 (a:=⟨w.heap.size+1,0,none⟩) (by simp) (c8 k);refine hQ' _ _ S2 ?_;clear hQ';refine E9 (by rfl) (fun Q' hQ'=>?_);go_wp2_with fail;have S3:=C0 S2 (a:=⟨w.heap.size+1+1,0,none⟩) (by simp) (c8 v);refine hQ' _ _ S3 ?_;clear hQ';refine E9 (by rfl) (fun Q' hQ'=>?_);go_wp2_with fail;refine hQ' _ _ S3 ?_;clear hQ';refine Ir ?_;go_wp2_with fail;have La:=(L1.drew.puts (vs:=c8 k) (by simp[hk])).putFar (p:=⟨w.heap.size+1+1,0,none⟩) (by simp) (c8 v);have Ra:=(R1.drew.putFar (p:=⟨w.heap.size+1,0,none⟩) (by simp) (c8 k)).puts (vs:=c8 v) (by simp[hv]);exact bodyPost_ret (H8 rfl (C5.row La rfl _ Tryz.underlying40 rfl (by simp[H9,hk])) (C5.row Ra rfl _ Tryz.underlying40 rfl (by simp[H9,hv])) (C5.tmp rfl)) rfl
   ⟨rfl,C0 (C0 B1.drew (by simp) _) (by simp;omega) _⟩
def Kd2 (W:World) (row:Option Nat) (T:TypeId):Prop:=∀g,row=some g→∃cur fz,W.heap[g]?=some (.cells cur T fz)
theorem A9j {W:World} {base:Nat} {e:TypeId} {sz n:Nat} {v:Value} {xs:List Value} (h:W.ownsRow base e sz v n xs):Kd2 W v.ownBlock e:=by
 intro g hg;rcases h.2 with ⟨rfl,_⟩ | ⟨g',cap,cur,rfl,_,hh,_⟩
 ·cases hg
 ·injection hg with hg;subst hg;exact ⟨_,_,hh⟩
end
theorem C1e:WideMaps.ArrKey Tryz.prog 40 5 32:=⟨Tryz.underlying40,by kernel_rfl,by kernel_rfl,by kernel_rfl⟩
theorem Cd:Maps.Keyed Tryz.prog 40:=Maps.Keyed.of_law C1e.law
theorem B9m:∃m,Tryz.prog.types.size=m+1:=⟨Tryz.prog.types.size-1,by kernel_rfl⟩
theorem A5l {α β:Type} {f:α→Option β}:∀(l:List α),(∀x∈l,∃y,f x=some y)→∃ys,l.mapM f=some ys
 | [],_=>⟨[],rfl⟩
 | x::l,h=>by
  obtain⟨y,hy⟩:=h x (by simp);obtain⟨ys,aA⟩:=A5l l (fun z hz=>h z (by simp[hz]));exact ⟨y::ys,by simp[List.mapM_cons,hy,aA]⟩
theorem E5t (x:UInt8):(Lit.int .u8 (n8 x)).wf=true:=by
 have:=x.toNat_lt;simp[Lit.wf,n8,IntKind.min,IntKind.max,IntKind.bits,IntKind.signed];omega
theorem C9t {P:Program} {k e:TypeId} (A:WideMaps.ArrKey P k e 32) (he:P.underlying e=some (.int .u8)) (hsz:∃m,P.types.size=m+1) {l:List UInt8} (hl:l.length=32):∃kl,keyOf P k (A8 l)=some kl:=by
 have aA:=A.keyType hsz;obtain⟨m,hm⟩:=hsz;unfold keyOf;simp only[A.hu];rw[if_pos (by simp[aA,Value.formed,A.hu,A.size,A8,hl]),hm];unfold Program.keyLits;simp only[A.hu,Value.cells,A8];rw[if_pos (by rw[A.size];simp[hl])];obtain⟨ys,aB⟩:∃ys,(List.range 32).mapM (fun i=>P.keyLits (m+1) e (((c8 l).drop (i*P.cellsOf e)).take (P.cellsOf e)))=some ys:=by
  refine A5l _ fun i hi=>?_;have hi:i<32:=by simpa using hi
  obtain⟨x,hx⟩:∃x,l[i]?=some x:=⟨_,List.getElem?_eq_getElem (by omega)⟩;have e1:((c8 l).drop (i*1)).take 1=[v8 x]:=by
   rw[Nat.mul_one];obtain⟨aC,rfl⟩:=List.getElem?_eq_some_iff.1 hx;rw[List.drop_eq_getElem_cons (by simpa using aC)];simp[c8]
  rw[A.one,e1];unfold Program.keyLits;simp only[he,v8];rw[if_pos ⟨trivial,E5t x⟩];exact ⟨_,rfl⟩
 simp only[aB];exact ⟨_,rfl⟩
theorem D2m (l:List UInt8) (hl:l.length=32):∃kl,keyOf Tryz.prog 40 (A8 l)=some kl:=C9t C1e Tryz.underlying5 B9m hl
noncomputable def A0z (P:Program) (k:TypeId) (l:List UInt8):Lit:=(keyOf P k (A8 l)).getD (.bool false)
theorem B3n {P:Program} {k:TypeId} {l:List UInt8} (h:∃kl,keyOf P k (A8 l)=some kl):keyOf P k (A8 l)=some (A0z P k l):=by
 obtain⟨kl,h⟩:=h;rw[A0z,h];rfl
noncomputable def Wi (l:List UInt8):Lit:=A0z Tryz.prog 40 l
theorem Fx {l:List UInt8} (hl:l.length=32):keyOf Tryz.prog 40 (A8 l)=some (Wi l):=B3n (D2m l hl)
theorem C5s {P:Program} {k:TypeId} (K:Maps.Keyed P k) {l:List UInt8} (h:∃kl,keyOf P k (A8 l)=some kl):WideAt.IsKeyLit (A0z P k l):=by
 have h1:=B3n h;generalize A0z P k l=q at *;exact K.key h1
theorem C6m:∀l,Wi l=A0z Tryz.prog 40 l:=fun l=>rfl
attribute [irreducible] Wi A0z
theorem B2b {l:List UInt8} (hl:l.length=32):WideAt.IsKeyLit (Wi l):=by
 have h:=C5s Cd (D2m l hl);rw[←C6m]at h;exact h
theorem D4u {l m:List UInt8} (hl:l.length=32) (hm:m.length=32) (h:l≠m):Wi l≠Wi m:=fun e=>h (C7o (Cd.inj (Fx hl) (by rw[e];exact Fx hm)))
theorem A5e {T:Tr} (ok:Okt T) {k v k':List UInt8} (hk:k.length=32) (hv:v.length=32):(Uq T k v).look k' 0=if k'=k then some v else T.look k' 0:=by
 have aA:=ok.put hk hv;by_cases h:k'=k
 ·subst h;rw[if_pos rfl];exact (Da aA).2 ((A3f ok hk _).2 (.inl rfl))
 ·rw[if_neg h];cases hT:T.look k' 0 with
  | some x=>exact (Da aA).2 ((A3f ok hk _).2 (.inr ⟨(Da ok).1 hT,h⟩))
  | none=>
   cases hp:(Uq T k v).look k' 0 with
   | none=>rfl
   | some x=>
    rcases (A3f ok hk _).1 ((Da aA).1 hp) with e | ⟨h1,_⟩
    ·cases e;exact absurd rfl h
    ·rw[(Da ok).2 h1]at hT;cases hT
theorem B0i {W W':World} {B:Nat} {row:Option Nat} (hg:W.grownBy W' row) (hr:∀r,row=some r→∃o:Obj,W.heap[r]?=some o∧o.isCells=false):∀ {t:Tr} {p:Value},At W B t p→At W' B t p
 | .e,_,h=>h
 | .lf _ _,_,⟨g',h1,h2,h3,h4,h5⟩=>⟨g',h1,h2,h3,h4,Bv h5 hg hr⟩
 | .nd _ _,_,⟨g',pl,pr,h1,h2,h3,h4,h5⟩=>⟨g',pl,pr,h1,h2,Bv h3 hg hr,B0i hg hr h4,B0i hg hr h5⟩
end Go.Proofs.YtmllnpokbbabhaaGreat
