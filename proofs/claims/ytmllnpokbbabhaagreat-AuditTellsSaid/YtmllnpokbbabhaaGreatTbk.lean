/- A part of the proof of AuditTells. -/
import Derived.RangeFuncNested
import Derived.RangeFuncBound
import Derived.RangeFuncCalls
import Derived.RangeFuncLeaves
import Derived.RangeFuncKeeps
import Derived.Shelf.Abstract
import Derived.Shelf.RegionOpen
import Derived.WalkKit
import Derived.OwnWalkIn
import Derived.TacticsInMore
import Derived.Outline
import Derived.Test.YtmllnpokbbabhaaGreatTbj
set_option linter.unusedVariables false
set_option linter.unusedSimpArgs false
set_option maxRecDepth 100000
set_option maxHeartbeats 40000000
namespace Go.Proofs.YtmllnpokbbabhaaGreat
open Go Go.RowKit Sh
section
def Cs (z:Nat) (W W':World):Prop:=∀(k T:Nat) (cs:List Value),z≤k→Bk W k T cs→Bk W' k T cs
theorem Cs.trans {z:Nat} {A B C:World} (h:Cs z A B) (k:Cs z B C):Cs z A C:=fun i T cs hi hb=>k i T cs hi (h i T cs hi hb)
theorem Cs.putObj (z:Nat) {W:World} {r:Nat} {o:Obj} (o':Obj) (ho:W.heap[r]?=some o) (hc:o.isCells=false):Cs z W (W.putObj r o'):=fun k T cs _ hb=>by
 unfold Bk at hb ⊢;rw[World.putObj_heap_other (fun e=>by subst e;rw[hb]at ho;injection ho with ho;subst ho;cases hc)];exact hb
def E2q {α:Type} (B z:Nat) (Kp:World→World→Prop) (I:Nat→List α→World→Prop) (Ix:Code→List α→World→Prop) (xs:List α) (W:World):Exit→Act→World→Prop
 | .normal,_,W'=>KeepsFrom B W W'∧Kp W W'∧Cs z W W'∧∃z',z'≤W'.heap.size∧I z' xs W'
 | .ret,_,W'=>KeepsFrom B W W'∧Kp W W'∧Cs z W W'∧Ix .ret xs W'
 | .exit id,_,W'=>KeepsFrom B W W'∧Kp W W'∧Cs z W W'∧Ix (.exit id) xs W'
 | .goto t,_,W'=>KeepsFrom B W W'∧Kp W W'∧Cs z W W'∧Ix (.goto t) xs W'
 | .panic _,_,_=>False
 | .outgrown,_,_=>False
def D9a {α:Type} (F:Fence) (n:Nat) (P:Program) (g:Nat) (lb:Array Value) (encs:α→Array Value) (Kp:Nat→World→World→Prop) (Good:List α→α→World→Prop) (S Sp:List α→Prop) (N:Nat) (w:World):Prop:=
 ∀(l:Nat) (J:Nat→List α→World→Prop) (Jx:List α→World→Prop) (W:World),l<W.heap.size→Below w.heap.size w W→(∀z,OwnFrom W.heap.size (J z))→OwnFrom W.heap.size Jx→
  (∀z pre x W1,J z pre W1→z≤W1.heap.size→pre.length<N→Good pre x W1→YieldAt F (n-1) P l (encs x) W1 fun e W'=>
   ((e=.returned (.bool true)∧∃z',z'≤W'.heap.size∧J z' (pre++[x]) W')∨(e=.returned (.bool false)∧Jx (pre++[x]) W'))∧Kp l W1 W'∧Cs z W1 W')→
  (∃z,z≤W.heap.size∧J z [] W)→
  CallsIn F n P g (#[.func (.yield l) #[] #[]]++lb) W fun e W'=>(∃v,e=.returned v)∧((∃xs z,S xs∧J z xs W')∨(∃pre,Sp pre∧Jx pre W'))
theorem stays {B r:Nat} {W W':World} {o:Obj} (hk:KeepsFrom B W W') (hr:B≤r) (ho:W.heap[r]?=some o) (hc:o.isCells=false):W'.heap[r]?=some o:=hk.same r o hr ho hc
section
variable {F : Fence} {n : Nat} {P : Program} {w : World}
theorem D1z {α:Type} {g:Operand} {ps:Array Tmp} {assign body:Code} {Q:Exit→Act→World→Prop} {a:Act}
 (hro:F.round=none) (h1:1≤n) {gf:Nat} {lb:Array Value} (hg:a.eval g=.func (.func gf) #[] lb) (hFg:F.fn gf) (eg:∀args w,(callFunc gf args).run P w=.ok (.enter gf args) w)
 {encs:α→Array Value} {Kp:Nat→World→World→Prop} {Good:List α→α→World→Prop} {S Sp:List α→Prop} {N:Nat} {w0:World} (hseq:D9a F (n-1) P gf lb encs Kp Good S Sp N w0)
 (hKt:∀ {A B C:World},Kp (w.heap.size+1) A B→Kp (w.heap.size+1) B C→Kp (w.heap.size+1) A C) (hKb:∀(W:World) (o o':Obj),W.heap[w.heap.size+1]?=some o→o.isCells=false→o.isWalk=false→Kp (w.heap.size+1) W (W.putObj (w.heap.size+1) o')) (hb0:Below w0.heap.size w0 w) (hps:∀x,(encs x).size=ps.size)
 (I:Nat→List α→World→Prop) (Ix:Code→List α→World→Prop) (hI:∀z,OwnFrom w.heap.size (I z)) (hIx:∀c,OwnFrom w.heap.size (Ix c)) (h0:∃z,z≤w.heap.size∧I z [] w)
 (Ax:Nat→List α→World→α→Act→World→Prop) (hAx:∀z pre Z x a',OwnFrom w.heap.size (fun (_:Unit) W=>Ax z pre Z x a' W))
 (hassign:∀(l z:Nat) (pre:List α) (x:α) (W:World) (K:Act→World→Prop),I z pre W→z≤W.heap.size→Good pre x W→(∀a' W',KeepsFrom w.heap.size W W'→Kp (w.heap.size+1) W W'→Cs z W W'→Ax z pre W x a' W'→K a' W')→
  assign.wpIn (F.inRound l) (n-1-1) P (Exit.then K (fun _ _ _=>False)) { tmps:=(ps.zip (encs x)).foldl (fun t (p,v)=>t.setIfInBounds p v) a.tmps,defers:=[] } W)
 (hbody:∀(l z:Nat) (pre:List α) (x:α) (a':Act) (Z W:World),w.heap.size≤l→(∃r,W.heap[l]?=some (.loop r))→I z pre Z→z≤Z.heap.size→Ax z pre Z x a' W→pre.length<N→body.wpIn (F.inRound l) (n-1-1) P (E2q w.heap.size z (Kp (w.heap.size+1)) I Ix (pre++[x]) W) a' W)
 (hdone:∀(D z:Nat) (xs:List α) (W:World),w.heap.size≤D→S xs→I z xs W→W.heap[D]?=some (.deferred (some []))→Q .normal { a with defers:={ target:=.collected D,args:=#[] }::a.defers } W)
 (hstop:∀(D:Nat) (c:Code) (pre:List α) (W:World),w.heap.size≤D→Sp pre→Ix c pre W→W.heap[D]?=some (.deferred (some []))→c.wpIn F n P Q { a with defers:={ target:=.collected D,args:=#[] }::a.defers } W) :
 (Code.rangeFunc g ps assign body).wpIn F n P Q a w:=by
 refine wpIn_rangeFunc fun fn hfn=>?_;rw[hro];generalize hR:(fun (st:LoopState) (pe:Option Code)=>({ state:=st,pending:=pe,fn,tmps:=a.tmps,params:=ps,assign,body,defers:=w.heap.size }:Loop))=R;have eR:∀st pe,R st pe={ state:=st,pending:=pe,fn,tmps:=a.tmps,params:=ps,assign,body,defers:=w.heap.size }:=fun st pe=>by rw[←hR]
 clear hR;obtain⟨V,hV⟩:=D9 ((w.alloc (.deferred (some []))).alloc (.loop (R .ready none)));have vs:V.heap.size=w.heap.size+2:=by rw[hV];simp
 have vL:V.heap[w.heap.size+1]?=some (.loop (R .ready none)):=by rw[hV];simpa using World.alloc_heap_new (w.alloc (.deferred (some []))) (.loop (R .ready none))
 have vD:V.heap[w.heap.size]?=some (.deferred (some [])):=by rw[hV];exact (Below.heap_alloc _ _ _ (by simp)).trans (World.alloc_heap_new w _)
 have vI:∃z,z≤V.heap.size∧I z [] V:=by obtain⟨z,hz,h⟩:=h0;refine ⟨z,by omega,?_⟩;rw[hV];exact (hI z).alloc _ ((hI z).alloc _ h)
 have vB:Below w0.heap.size w0 V:=by rw[hV];exact hb0.trans ((((Below.refl _ w).alloc (Nat.le_refl _) _).alloc (by simp) _).mono hb0.size)
 refine ⟨w.heap.size+1,[{ target:=.collected w.heap.size,args:=#[] }],V,{ target:=.fn (.func gf) lb,args:=#[.func (.yield (w.heap.size+1)) #[] #[]] },V,gf,#[.func (.yield (w.heap.size+1)) #[] #[]]++lb,V,?_,?_,?_,?_,fun _=>h1,?_⟩
 ·rw[hV,eR];exact run_enterLoop_outer _ _ _ _ _
 ·simp only[resolve,hg];simp[go_sem]
 ·intro f' aJ;simp[Target.leads]at aJ;subst aJ;exact hFg
 ·simp[invoke,go_sem,eg]
 let Own2:Loop→World→Prop:=fun r W=>W.heap[w.heap.size+1]?=some (.loop r)∧W.heap[w.heap.size]?=some (.deferred (some []))
 have aG:∀ {r:Loop} {A B:World} {aB:Option Nat},Own2 r A→A.grownBy B aB→(∀q,aB=some q→V.heap.size≤q∧∃o:Obj,A.heap[q]?=some o∧o.isCells=false)→Own2 r B:=by
  intro r A B aB h aE hr;have hc:∀q,aB=some q→w.heap.size+2≤q:=fun q e=>by rw[←vs];exact (hr q e).1
  exact ⟨(aE.block _ (Array.getElem?_eq_some_iff.1 h.1).1 (fun e=>by have:=hc _ e.symm;omega)).trans h.1,(aE.block _ (Array.getElem?_eq_some_iff.1 h.2).1 (fun e=>by have:=hc _ e.symm;omega)).trans h.2⟩
 have aA:∀ {A:World} {aB:Option Nat},(∀q,aB=some q→V.heap.size≤q∧∃o:Obj,A.heap[q]?=some o∧o.isCells=false)→∀q,aB=some q→w.heap.size≤q∧∃o:Obj,A.heap[q]?=some o∧o.isCells=false:=by intro A aB hr q e;obtain⟨h2,o,h3,h4⟩:=hr q e;exact ⟨by omega,o,h3,h4⟩
 refine (hseq (w.heap.size+1) (fun z pre W=>I z pre W∧Own2 (R .ready none) W) (fun pre W=>∃c,Ix c pre W∧Own2 (R .done (some c)) W) V (by omega) vB
  (fun z s A B aB hs aE hr=>⟨hI z s A B aB hs.1 aE (aA hr),aG hs.2 aE hr⟩)
  (fun s A B aB hs aE hr=>by
   obtain⟨c,hc,h2⟩:=hs;exact ⟨c,hIx c s A B aB hc aE (aA hr),aG h2 aE hr⟩)
  ?round (by obtain⟨z,hz,h⟩:=vI;exact ⟨z,hz,h,vL,vD⟩)).mono ?after
 case round=>
  rintro z pre x W ⟨hi,hl,hd⟩ hz aI aH;have hy:=run_yield (P:=P) (args:=encs x) hl (by rw[eR];exact hps x);rw[eR]at hy;refine ⟨fn,_,assign,body,hy,roundIn_of_wpIn hfn (hassign _ z pre x W _ hi hz aH fun a' X hX hKX hzX haX=>?_)⟩;clear hy;have xl:=stays hX (by omega) hl rfl;have xd:=stays hX (Nat.le_refl _) hd rfl;have xs:w.heap.size+1<X.heap.size:=(Array.getElem?_eq_some_iff.1 xl).1;refine ⟨_,run_beginRound xl (by rw[eR]),?_⟩;obtain⟨Y,hY⟩:=D9 (X.putObj (w.heap.size+1) (.loop { R .ready none with state:=.busy }));have yl:Y.heap[w.heap.size+1]?=some (.loop { R .ready none with state:=.busy }):=by rw[hY];exact World.putObj_heap_same xs
  have yd:Y.heap[w.heap.size]?=some (.deferred (some [])):=by rw[hY];exact (World.putObj_heap_other (by omega)).trans xd
  have yK:Kp (w.heap.size+1) X Y:=by rw[hY];exact hKb _ _ _ xl rfl rfl
  have yz:Cs z X Y:=by rw[hY];exact Cs.putObj z _ xl rfl
  have yA:Ax z pre W x a' Y:=by rw[hY];exact (hAx z pre W x a').putObj (s:=()) _ haX (by omega) xl rfl
  rw[←hY];refine wpIn_mono (hbody _ z pre x a' W Y (by omega) ⟨_,yl⟩ hi hz yA aI) ?_;have aC:∀(j:Option Code) (Z:World),KeepsFrom w.heap.size Y Z→Kp (w.heap.size+1) Y Z→Cs z Y Z→
   (Instr.endRound (w.heap.size+1) j).run P Z=.ok (.bool j.isNone) (Z.putObj (w.heap.size+1) (.loop (R (if j.isNone then .ready else .done) j)))∧Z.heap[w.heap.size+1]?=some (.loop { R .ready none with state:=.busy })∧
   Own2 (R (if j.isNone then .ready else .done) j) (Z.putObj (w.heap.size+1) (.loop (R (if j.isNone then .ready else .done) j)))∧
   Kp (w.heap.size+1) W (Z.putObj (w.heap.size+1) (.loop (R (if j.isNone then .ready else .done) j)))∧Cs z W (Z.putObj (w.heap.size+1) (.loop (R (if j.isNone then .ready else .done) j))):=by
   intro j Z hZ hk aD;have zl:=stays hZ (by omega) yl rfl;have zd:=stays hZ (Nat.le_refl _) yd rfl;have he:=run_endRound (P:=P) j zl;have k1:=hKb _ _ (.loop (R (if j.isNone then .ready else .done) j)) zl rfl rfl;have k2:=Cs.putObj z (.loop (R (if j.isNone then .ready else .done) j)) zl rfl;rw[eR]at he;rw[eR]at zl;simp only[eR]at he zl k1 k2 ⊢;exact ⟨he,zl,⟨World.putObj_heap_same (Array.getElem?_eq_some_iff.1 zl).1,(World.putObj_heap_other (by omega)).trans zd⟩,hKt hKX (hKt (hKt yK hk) k1),hzX.trans ((yz.trans aD).trans k2)⟩
  rintro e a3 Z hp;cases e with
  | normal=>
   obtain⟨hZ,hk,aD,z',aK,aF⟩:=hp;obtain⟨hr,zl,h2,h3,h4⟩:=aC none Z hZ hk aD;exact ⟨_,_,hr,.inl ⟨rfl,z',by simpa using aK,(hI z').putObj _ aF (by omega) zl rfl,h2⟩,h3,h4⟩
  | ret=>
   obtain⟨hZ,hk,aD,aF⟩:=hp;obtain⟨hr,zl,h2,h3,h4⟩:=aC (some .ret) Z hZ hk aD;exact ⟨_,_,hr,.inr ⟨rfl,.ret,(hIx _).putObj _ aF (by omega) zl rfl,h2⟩,h3,h4⟩
  | exit id=>
   obtain⟨hZ,hk,aD,aF⟩:=hp;obtain⟨hr,zl,h2,h3,h4⟩:=aC (some (.exit id)) Z hZ hk aD;exact ⟨_,_,hr,.inr ⟨rfl,.exit id,(hIx _).putObj _ aF (by omega) zl rfl,h2⟩,h3,h4⟩
  | goto t=>
   obtain⟨hZ,hk,aD,aF⟩:=hp;obtain⟨hr,zl,h2,h3,h4⟩:=aC (some (.goto t)) Z hZ hk aD;exact ⟨_,_,hr,.inr ⟨rfl,.goto t,(hIx _).putObj _ aF (by omega) zl rfl,h2⟩,h3,h4⟩
  | panic ch=>exact hp.elim
  | outgrown=>exact hp.elim
 case after=>
  rintro e W2 ⟨⟨v,rfl⟩,(⟨xs,z,hS,hi,hl,hd⟩ | ⟨pre,hS,c,hi,hl,hd⟩)⟩
  ·have he:=run_endLoop (P:=P) hl (by rw[eR];simp);rw[eR]at he;exact ⟨none,_,he,hdone _ z xs _ (Nat.le_refl _) hS ((hI z).putObj _ hi (by omega) hl rfl) ((World.putObj_heap_other (by omega)).trans hd)⟩
  ·have he:=run_endLoop (P:=P) hl (by rw[eR];simp);rw[eR]at he;exact ⟨some c,_,he,hstop _ c pre _ (Nat.le_refl _) hS ((hIx c).putObj _ hi (by omega) hl rfl) ((World.putObj_heap_other (by omega)).trans hd)⟩
end
end
section
attribute [local go_sem] Oper.semAt_some
theorem D4q (l n₀:Nat) (T:List PrS) (J Jx:List PrS→World→Prop)
 (hY:∀m pre (x:PrS) W,J pre W→pre++[x] <+: T→YieldAt Fence.wide m Tryz.prog l (C8x x) W fun e W'=>
  (e=.returned (.bool true)∧J (pre++[x]) W'∧Below n₀ W W')∨(e=.returned (.bool false)∧Jx (pre++[x]) W'))
 (hJd:∀pre W k,J pre W→J pre (W.drewN k)) (t:Tr) :
 ∀(d:Nat) (P:Nat→Bool) (n:Nat) (p:Value) (pre:List PrS) (W:World),Ok d P t→At W n₀ t p→J pre W→pre++t.prs <+: T→
  CallsIn Fence.wide n Tryz.prog 141 #[p,.func (.yield l) #[] #[]] W fun e W'=>
   (e=.returned (.bool true)∧J (pre++t.prs) W'∧Below n₀ W W')∨(e=.returned (.bool false)∧∃q,q <+: t.prs∧Jx (pre++q) W'):=by
 induction t with
 | e=>
  intro d P n p pre W ok ht hJ hN;obtain rfl:p=.pointer none:=ht;refine callsIn_of_wp Tryz.func141 rfl trivial ?_ rfl;simp only[Tryz.ntmps141,List.size_toArray,List.length_cons,List.length_nil,Nat.reduceAdd,Nat.reduceSub,Array.replicate_succ,Array.replicate_zero,List.push_toArray,List.append_toArray,Nw];gi_wp2_with ((try refine ⟨trivial,?_⟩);(try refine ⟨hdw _,?_⟩);gi_at_call 167;refine (callsIn_wide.2 (Rs .e (.pointer none) W n₀ rfl)).mono ?_;rintro e W1 ⟨rfl,rfl⟩;dsimp only[Tr.len])
  go_ret;exact .inl ⟨rfl,by simpa [Tr.prs] using hJ,Below.refl _ _⟩
 | lf k v=>
  intro d P n p pre W ok ht hJ hN;obtain⟨g,rfl,hg,hk,hv,hb⟩:=ht;have hp:Si (k,v):=⟨hk,hv⟩;have aD:(Tr.lf k v).prs=[⟨(k,v),hp⟩]:=by simp[Tr.prs,hp]
  rw[aD]at hN ⊢;have aH:=Wg hb hk;have aI:=A0w hb hk hv;have aR:C4 W.drew ⟨g,0,none⟩ 32=some (c8 k):=aH;have aS:C4 W.drew ⟨g,32,none⟩ 32=some (c8 v):=aI;have aE:At W n₀ (.lf k v) (.pointer (some ⟨g,0,none⟩)):=⟨g,rfl,hg,hk,hv,hb⟩;have aJ:Tryz.prog.follows .mixedOrders=true:=by kernel_rfl
  refine callsIn_of_wp Tryz.func141 rfl trivial ?_ rfl;simp only[Tryz.ntmps141,List.size_toArray,List.length_cons,List.length_nil,Nat.reduceAdd,Nat.reduceSub,Array.replicate_succ,Array.replicate_zero,List.push_toArray,List.append_toArray,Nw];gi_wp2_with ((try refine ⟨trivial,?_⟩);(try refine ⟨hdw _,?_⟩);gi_at_call 167;refine (callsIn_wide.2 (Rs (.lf k v) _ W n₀ aE)).mono ?_;rintro e W1 ⟨rfl,aB⟩;rw[aB];clear aB;dsimp only[Tr.len])
  refine Zq A5k (fun w'=>∃k,w'=W.drewN k) 9 aJ (by kernel_rfl) (by kernel_rfl) ⟨1,rfl⟩ ?_;simp only[List.take_succ_cons,List.take_zero,List.drop_succ_cons,List.drop_zero];repeat (go_big_quiet_step (fail))
  refine wpQuiet_nil ?_;rintro w1 ⟨nq,rfl⟩;obtain⟨fn,tmps,aF,aK,hy,hR⟩:=hY (n-1) pre ⟨(k,v),hp⟩ (W.drewN nq) (hJd _ _ _ hJ) hN;dsimp only[C8x]at hy;gi_wp2_with ((try refine ⟨trivial,?_⟩);(try refine ⟨hdw _,?_⟩);refine hR.mono ?_;rintro e W2 (⟨rfl,hJ2,hb2⟩ | ⟨rfl,hx2⟩))
  ·go_ret;exact .inl ⟨rfl,hJ2,(P7 (Below.refl n₀ W) nq).trans hb2⟩
  ·go_ret;exact .inr ⟨rfl,[⟨(k,v),hp⟩],List.prefix_refl _,hx2⟩
 | nd tl tr ihl ihr=>
  intro d P n p pre W ok ht hJ hN;have aE:=ht;obtain⟨g,pl,pr,rfl,hg,hb,aA,aC⟩:=ht;obtain⟨al,rfl⟩:=aA.form;obtain⟨ar,rfl⟩:=aC.form;have c0:=Rx hb (L6 32) (L6 32);have c1:=Mx hb (L6 32) (L6 32);have aL:2≤(Tr.nd tl tr).len:=ok.2.1;simp only[Tr.prs]at hN;have aM:pre++tl.prs <+: T:=List.IsPrefix.trans ⟨tr.prs,by simp⟩ hN;have aN:(pre++tl.prs)++tr.prs <+: T:=by simpa using hN
  obtain⟨m,hm⟩:=D9 ((Tr.nd tl tr).len);rw[←hm]at aL;have Hm:=Lib.hid hm.symm;clear hm;have aO:((m:Int)==0)=false:=by rw[beq_eq_false_iff_ne];omega
  have aP:((m:Int)==1)=false:=by rw[beq_eq_false_iff_ne];omega
  have aG:=(ihl (d+1) _ (n-1) _ pre W ok.2.2.1 aA hJ aM).mono (R':=fun e W1=>
   (e=.returned (.bool true)∧J (pre++tl.prs) W1∧W1.cell? ⟨g,65,none⟩=some (.pointer ar)∧At W1 n₀ tr (.pointer ar)∧Below n₀ W W1)∨
   (e=.returned (.bool false)∧∃q,q <+: tl.prs∧Jx (pre++q) W1))
   (fun e W1 h=>h.elim (fun ⟨he,hj,hb1⟩=>.inl ⟨he,hj,(hb1.cell (p:=⟨g,65,none⟩) hg).trans c1,aC.below hb1,hb1⟩) .inr)
  clear ihl hb aA;refine callsIn_of_wp Tryz.func141 rfl trivial ?_ rfl;simp only[Tryz.ntmps141,List.size_toArray,List.length_cons,List.length_nil,Nat.reduceAdd,Nat.reduceSub,Array.replicate_succ,Array.replicate_zero,List.push_toArray,List.append_toArray,Nw];gi_wp2_with (first
   | ((try refine ⟨trivial,?_⟩);(try refine ⟨hdw _,?_⟩);gi_at_call 167;refine (callsIn_wide.2 (Rs (.nd tl tr) _ W n₀ aE)).mono ?_;rintro e W1 ⟨rfl,aB⟩;rw[aB,Hm.out];clear aB)
   | ((try refine ⟨trivial,?_⟩);(try refine ⟨hdw _,?_⟩);gi_at_call 141;refine aG.mono ?_;clear aG;rintro e W1 (⟨rfl,hJ1,c1',hatr1,hb1⟩ | ⟨rfl,q,hq,hx1⟩))
   | ((try refine ⟨trivial,?_⟩);(try refine ⟨hdw _,?_⟩);gi_at_call 141;refine (ihr (d+1) _ (n-1) _ _ _ ok.2.2.2 hatr1 hJ1 aN).mono ?_;rintro e W3 (⟨rfl,hJ3,hb3⟩ | ⟨rfl,q,hq,hx3⟩)))
  ·go_ret;exact .inl ⟨rfl,by simpa [Tr.prs,List.append_assoc] using hJ3,hb1.trans hb3⟩
  ·go_ret;obtain⟨r,aQ⟩:=hq;exact .inr ⟨rfl,tl.prs++q,⟨r,by simp[Tr.prs,←aQ]⟩,by simpa [List.append_assoc] using hx3⟩
  ·refine ⟨trivial,?_⟩;gi_wp2
   go_ret;exact .inr ⟨rfl,q,hq.trans (by simp[Tr.prs]),hx1⟩
theorem D1b (n l Bt n₀:Nat) (p0:Value) (dd:Value) (t:Tr) (d:Nat) (P:Nat→Bool) (ok:Ok d P t) (J Jx:List PrS→World→Prop)
 (hY:∀pre (x:PrS) W,J pre W→pre++[x] <+: t.prs→YieldAt Fence.wide (n-1) Tryz.prog l (C8x x) W fun e W'=>
  (e=.returned (.bool true)∧J (pre++[x]) W'∧Below n₀ W W')∨(e=.returned (.bool false)∧Jx (pre++[x]) W'))
 (hJd:∀pre W k,J pre W→J pre (W.drewN k)) (W:World) (hBt:Bk W Bt 31 [p0,dd]) (hT:At W n₀ t p0) (h0:J [] W) :
 CallsIn Fence.wide n Tryz.prog 140 #[.func (.yield l) #[] #[],.pointer (some ⟨Bt,0,none⟩)] W fun e W'=>(∃v,e=.returned v)∧
  ((∃ys,ys=t.prs∧J ys W')∨(∃pre,pre <+: t.prs∧Jx pre W')):=by
 obtain⟨ap,rfl⟩:=hT.form;have c0:W.cell? ⟨Bt,0,none⟩=some (.pointer ap):=hBt.at_ rfl;have hp:=D4q l n₀ t.prs J Jx (fun m pre x W hj hl=>Sn rfl m (hY pre x W hj hl)) hJd t d P (n-1) _ [] W ok hT h0 (List.prefix_refl _);refine callsIn_of_wp Tryz.func140 rfl trivial ?_ rfl;simp only[Tryz.ntmps140,List.size_toArray,List.length_cons,List.length_nil,Nat.reduceAdd,Nat.reduceSub,Array.replicate_succ,Array.replicate_zero,List.push_toArray,List.append_toArray,Nw];gi_wp2_with ((try refine ⟨trivial,?_⟩);(try refine ⟨hdw _,?_⟩);gi_at_call 141;refine hp.mono ?_;clear hp;rintro e W1 (⟨rfl,hJ1,_⟩ | ⟨rfl,q,hq,hx⟩))
 ·go_end0
  exact ⟨⟨_,rfl⟩,.inl ⟨_,rfl,by simpa using hJ1⟩⟩
 ·go_end0
  exact ⟨⟨_,rfl⟩,.inr ⟨q,hq,by simpa using hx⟩⟩
theorem E6r (n Bt n₀:Nat) (p0 dd:Value) (t:Tr) (d:Nat) (P:Nat→Bool) (ok:Ok d P t) (w:World) (hBt:Bk w Bt 31 [p0,dd]) (hn₀:n₀≤w.heap.size) (hT:At w n₀ t p0) :
 D9a Fence.wide n Tryz.prog 140 #[.pointer (some ⟨Bt,0,none⟩)] C8x (fun _=>Below n₀) (fun pre x _=>pre++[x] <+: t.prs) (fun ys=>ys=t.prs) (fun pre=>pre <+: t.prs) t.prs.length w:=by
 intro l J Jx W hl hW hJ aD hY h0;refine (D1b n l Bt n₀ p0 dd t d P ok (fun pre V=>∃z,z≤V.heap.size∧J z pre V) Jx (fun pre x V hj hp=>?_) (fun pre V k hv=>?_) W (hBt.bl hW) (hT.below (hW.mono hn₀)) h0).mono ?_
 ·obtain⟨z,hz,hj⟩:=hj;have aB:pre.length<t.prs.length:=by have:=hp.length_le;simp at this;omega
  obtain⟨fn,tmps,aA,aC,hy,hR⟩:=hY z pre x V hj hz aB hp;refine ⟨fn,tmps,aA,aC,hy,hR.mono fun e W' he=>?_⟩;obtain⟨h1 | h1,h2,h3⟩:=he
  ·exact .inl ⟨h1.1,h1.2,h2⟩
  ·exact .inr h1
 ·obtain⟨z,hz,hj⟩:=hv;exact ⟨z,hz,hJ z pre V (V.drewN k) none hj ⟨rfl,rfl,rfl,Nat.le_refl _,fun _ _ _=>rfl⟩ (fun r e=>by cases e)⟩
 ·rintro e W' ⟨h1,⟨xs,h2,z,_,h3⟩ | h2⟩
  ·exact ⟨h1,.inl ⟨xs,z,h2,h3⟩⟩
  ·exact ⟨h1,.inr h2⟩
end
section
attribute [local go_sem] Oper.semAt_some
structure KV where
 id:List UInt8
 ks:List (List UInt8)
 v:Value
 ok:id.length=32
def D9l (x:KV):Array Value:=#[A8 x.id,x.v]
def KV.en (x:KV):En:=(x.id,x.ks)
def KT (W W':World):Prop:=∀(k T:Nat) (cs:List Value),T=172∨T=34→Bk W k T cs→Bk W' k T cs
theorem D1l (a b c d:Value) (w:World) (n:Nat) :
 CallsIn Fence.wide n Tryz.prog 61 #[.agg #[a,b,c,d]] w fun e w'=>e=.returned (.func (.func 96) #[] #[.pointer (some ⟨w.heap.size,0,none⟩)])∧w'=w.alloc (.cells #[a,b,c,d] 34):=by
 refine callsIn_of_wp Tryz.func61 rfl trivial ?_ rfl;simp only[Tryz.ntmps61,List.size_toArray,List.length_cons,List.length_nil,Nat.reduceAdd,Nat.reduceSub,Array.replicate_succ,Array.replicate_zero,List.push_toArray,List.append_toArray,Nw];gi_wp2
 go_ret;exact ⟨rfl,rfl⟩
def KpD (n0 l:Nat) (W W':World):Prop:=Below n0 W W'∧KeepsFrom (l+1) W W'∧KT W W'
theorem D8e {w:World} {x:Int} {ap:Option Addr} {mb:Option Nat} {e N:Nat} {L:List En} {t:Tr} (h:DirIs w (.agg #[.int .i64 x,.pointer ap,.int .i64 0,.map mb]) e L N) (ht:IsTree t L):At w w.heap.size t (.pointer ap):=by
 obtain⟨aA,mv,m,s,h1,h2,h3,h4,h5,h6,h7⟩:=h;have h8:=congrArg (fun v=>match v with | .agg a=>a.toList | _=>[]) h1;simp at h8;obtain rfl:=ht.uniq ⟨h5,h6⟩;rw[h8.2.1];exact h7
theorem E0k {W W':World} (hb:Below W.heap.size W W'):W.grownBy W' none:=⟨hb.os,hb.tape,hb.output,hb.size,fun k hk _=>hb.block k (by omega)⟩
theorem A8o {β:Type} {B:Nat} {I:β→World→Prop} (h:OwnFrom B I) {s:β} {W W':World} (hs:I s W) (hb:Below W.heap.size W W'):I s W':=h s W W' none hs (E0k hb) (fun r e=>by cases e)
theorem Hd {W W':World} (hb:Below W.heap.size W W'):KeepsOthers W W':=⟨hb.size,fun k o hk _=>by rw[hb.block k (Array.getElem?_eq_some_iff.1 hk).1];exact hk⟩
theorem Cs.ext {z:Nat} {W W':World} (hb:Below W.heap.size W W'):Cs z W W':=fun _ _ _ _ h=>h.bl hb
def DlI (w0:World) (L:List En) (J:List KV→World→Prop) (l by_ Bd:Nat) (dc:List Value) (pre:List PrS) (W:World):Prop:=
 ∃ps:List KV,ps.map KV.id=pre.map (·.1.1)∧(∀q∈ps,q.ks=lookE L q.id)∧J ps W∧Bk W by_ 172 [.func (.yield l) #[] #[]]∧Bk W Bd 34 dc∧Below w0.heap.size w0 W
section
variable {w0 : World} {L : List En} {J : List KV → World → Prop} {l by_ Bd : Nat} {dc : List Value}
theorem A8l {B C:Nat} (hJ:OwnFrom C J) (hC:C≤B) (h0:w0.heap.size≤B):OwnFrom B (DlI w0 L J l by_ Bd dc):=by
 intro s X Y aA hs hg hr;obtain⟨ps,h1,h2,h3,h4,h5,h6⟩:=hs;have aB:∀r,aA=some r→∃o:Obj,X.heap[r]?=some o∧o.isCells=false:=fun r e=>(hr r e).2;exact ⟨ps,h1,h2,hJ ps X Y aA h3 hg (fun r e=>⟨Nat.le_trans hC (hr r e).1,(hr r e).2⟩),Bv h4 hg aB,Bv h5 hg aB,h6.grown hg h6.size (fun k e=>Nat.le_trans h0 (hr k e).1)⟩
theorem D3f {C:Nat} (hJ:OwnFrom C J) {pre:List PrS} {W W':World} (h:DlI w0 L J l by_ Bd dc pre W) (hb:Below W.heap.size W W'):DlI w0 L J l by_ Bd dc pre W':=by
 obtain⟨ps,h1,h2,h3,h4,h5,h6⟩:=h;exact ⟨ps,h1,h2,A8o hJ h3 hb,h4.bl hb,h5.bl hb,C3 h6 hb h6.size⟩
theorem A8i {ps:List KV} {pre:List PrS} (ok:OkE L) {t:Tr} (ht:IsTree t L) (h1:ps.map KV.id=pre.map (·.1.1)) (h2:∀q∈ps,q.ks=lookE L q.id) (hp:pre <+: t.prs):ps.map KV.en <+: L:=by
 have e1:(t.prs.map (·.1))=pairsE L:=by rw[Qy ht.ok,ht.prs]
 have e2:t.prs.map (fun x=>x.1.1)=L.map (·.1):=by have:=congrArg (List.map Prod.fst) e1;unfold pairsE at this;rw[List.map_map,List.map_map]at this;exact this
 have e3:ps.map KV.en=(ps.map KV.id).map fun x=>(x,lookE L x):=by rw[List.map_map];exact List.map_congr_left fun q hq=>by simp[KV.en,h2 q hq]
 have e4:(L.map (·.1)).map (fun x=>(x,lookE L x))=L:=by rw[List.map_map];refine (List.map_congr_left fun q hq=>?_).trans (List.map_id L);show (q.1,lookE L q.1)=q;rw[Fo ok.rise q hq]
 obtain⟨r,hr⟩:=hp;rw[e3,h1];refine ⟨(r.map fun x=>x.1.1).map (fun x=>(x,lookE L x)),?_⟩;rw[←List.map_append,←List.map_append,hr,e2,e4]
end
attribute [local go_sem ↓ high] El A4w
theorem B9i (w0:World) (e N:Nat) (ap:Option Addr) (mb:Option Nat) (L:List En) (t:Tr) (hD:DirIs w0 (.agg #[.int .i64 (e:Int),.pointer ap,.int .i64 0,.map mb]) e L N) (ht:IsTree t L) (hks:∀x,(lookE L x).length≤1000000)
 (n:Nat) (w:World) (Bd:Nat) (hw:Below w0.heap.size w0 w) (hBd:Bk w Bd 34 [.int .i64 (e:Int),.pointer ap,.int .i64 0,.map mb]) :
 D9a Fence.wide n Tryz.prog 96 #[.pointer (some ⟨Bd,0,none⟩)] D9l (KpD w0.heap.size) (fun pre x W=>OwnK W w0.heap.size x.v x.ks∧(pre++[x]).map KV.en <+: L) (fun xs=>xs.map KV.en=L) (fun xs=>xs.map KV.en <+: L) L.length w:=by
 intro l J Jx W bN hW hJ aV hY h0;have D0:=hBd.bl hW;have B0:=X4 hw hW;clear hBd hw hW;refine callsIn_of_wp_marks Tryz.func96 rfl trivial ?_ rfl;simp only[Tryz.ntmps96,List.size_toArray,List.length_cons,List.length_nil,Nat.reduceAdd,Nat.reduceSub,Array.replicate_succ,Array.replicate_zero,List.push_toArray,List.append_toArray,Nw];refine wpIn_wide.2 ?_;obtain⟨W1,aD⟩:=D9 (W.alloc (Obj.cells #[.func (.yield l) #[] #[]] 172));have b1:=BA' aD;have Y1:=KN' aD;have D1:=D0.bl b1;have r1:C4 W1 ⟨Bd,1,none⟩ 2=some [.pointer ap,.int .i64 0]:=D1.row (o:=1) (n:=2) (by simp);rw[aD]at r1;go_wp2_with fail;rw[←aD];clear aD r1;refine (callsIn_wide.1 (D1c (.pointer ap) (.int .i64 0) W1 5)).mono ?_;rintro x W2 ⟨rfl,aL⟩;have T2:Bk W2 W1.heap.size 31 [.pointer ap,.int .i64 0]:=by rw[aL];exact Bk.new W1 _ _
 have b2:=BA' aL;clear aL;have aE:=X4 b1 b2;have Y2:=Y1.bl b2;have D2:=D1.bl b2;have B2:=X4 B0 aE;have J2:∃z,z≤W2.heap.size∧DlI w0 L (J z) l W.heap.size Bd [.int .i64 (e:Int),.pointer ap,.int .i64 0,.map mb] [] W2:=by obtain⟨z,hz,h⟩:=h0;exact ⟨z,Nat.le_trans hz aE.size,[],rfl,fun q h=>(by cases h),A8o (hJ z) h aE,Y2,D2,B2⟩
 have aM:=aE.size;clear Y1 D1 b1 b2 aE B0 D0 h0;go_wp2_with fail;have hn:=B2.size;have aN:=(D8e hD ht).below B2;have aO:=Qy ht.ok;have aW:t.prs.length=L.length:=by rw[←X1,←ht.prs,←aO,List.length_map]
 refine (wpIn_wide (n:=5)).1 ?_;refine D1z (F:=Fence.wide) (n:=5) rfl (by omega) (gf:=140) (lb:=#[.pointer (some ⟨W1.heap.size,0,none⟩)]) rfl trivial (enters_of Tryz.func140 (by kernel_rfl) rfl)
  (E6r (5-1) W1.heap.size w0.heap.size (.pointer ap) (.int .i64 0) t 0 P0 ht.ok W2 T2 hn aN) (fun h k=>belowK_t h k) (fun X o o' h1 h2 h3=>belowK_b hn X _ o o' (by omega) h1 h2 h3) (Below.refl _ _) (fun _=>rfl)
  (fun z=>DlI w0 L (J z) l W.heap.size Bd [.int .i64 (e:Int),.pointer ap,.int .i64 0,.map mb]) (fun c pre X=>c=.ret∧DlI w0 L Jx l W.heap.size Bd [.int .i64 (e:Int),.pointer ap,.int .i64 0,.map mb] pre X) (fun z=>A8l (hJ z) aM hn) (fun _ s X Y row hs hg hr=>⟨hs.1,A8l aV aM hn s X Y row hs.2 hg hr⟩)
  J2
  (fun z pre Z x a' X=>pre++[x] <+: t.prs∧DlI w0 L (J z) l W.heap.size Bd [.int .i64 (e:Int),.pointer ap,.int .i64 0,.map mb] pre X∧∃gk:Nat,Z.heap.size≤gk∧Bk X gk 40 (c8 x.1.1)∧a'={ tmps:=(.func (.yield l) #[] #[] :: .pointer (some ⟨Bd,0,none⟩) :: .pointer (some ⟨W.heap.size,0,none⟩) :: .pointer (some ⟨gk,0,none⟩) :: .pointer (some ⟨Bd,1,none⟩) :: .agg #[.pointer ap,.int .i64 0] :: .func (.func 140) #[] #[.pointer (some ⟨W1.heap.size,0,none⟩)]::A8 x.1.1::A8 x.1.2::undef::undef::undef::undef::undef::undef::undef::[]).toArray,defers:=[] })
  (fun z pre Z x a'=>by
   intro s X Y row hs hg hr;obtain⟨h0,h1,gk,h2,h3,h5⟩:=hs;exact ⟨h0,A8l (hJ z) aM hn pre X Y row h1 hg hr,gk,h2,Bv h3 hg (fun r e=>(hr r e).2),h5⟩) ?aA ?aF ?aG ?aH
 case aA=>
  rintro lp z pre ⟨⟨k,x⟩,hx⟩ V K hI hz aP hK;have hk:=hx.1;have aQ:=hx.2;simp only at hk aQ;simp only[C8x];have bC:F9 (V.alloc (Obj.cells (c8 (z8 32)).toArray 40)) ⟨V.heap.size,0,none⟩ 32=true:=(Bk.new V _ _).can (by simp);gi_wp2
  obtain⟨V1,aR⟩:=D9 (C2 (V.alloc (Obj.cells (c8 (z8 32)).toArray 40)) ⟨V.heap.size,0,none⟩ (c8 k));rw[←aR];have aJ:Below V.heap.size V V1:=by rw[aR];exact C0 (U7 _ _) (Nat.le_refl _) _
  have K1:Bk V1 V.heap.size 40 (c8 k):=by rw[aR];exact Bk.fresh V _ (by simp[hk])
  have bD:w0.heap.size≤V.heap.size:=by obtain⟨_,_,_,_,_,_,h⟩:=hI;exact h.size
  exact hK _ _ ((Hd aJ).from _) (aJ.mono bD) (Cs.ext aJ) ⟨aP,D3f (hJ z) hI aJ,V.heap.size,Nat.le_refl _,K1,rfl⟩
 case aF=>
  rintro lp z pre ⟨⟨k,x⟩,hx⟩ a' Z V hl bO _ bE ⟨aP,⟨ps,h1,h2,h3,Y3,D3,B3⟩,gk,bF,Kk,rfl⟩ bG;have hk:=hx.1;have aQ:=hx.2;simp only at hk aQ;have aX:z≤gk:=Nat.le_trans bE bF;have bH:=hD.up B3;have bI:ps.length=pre.length:=by have:=congrArg List.length h1;simpa using this
  have S0:=Nq V;have Y4:=Y3.bl S0;have D4:=D3.bl S0;have K4:=Kk.bl S0;have bJ:=bH.up S0;have J4:=A8o (hJ z) h3 S0;have B4:=X4 B3 S0;gi_wp2
  refine B0p (fun X=>Bk X W.heap.size 172 [.func (.yield l) #[] #[]]∧Bk X Bd 34 [.int .i64 (e:Int),.pointer ap,.int .i64 0,.map mb]∧Bk X gk 40 (c8 k)) (by kernel_rfl) ?_;refine A8n (Fp lp) (by kernel_rfl) (A:=?bP) [0,1,2,3] (by kernel_rfl) (by kernel_rfl) rfl (by kernel_rfl) (by kernel_rfl) ⟨Y4,D4,K4⟩ (h:=fun X hX=>?bK) (hr:=?bQ);case bK=>
   have f1:X.cell? ⟨W.heap.size,0,none⟩=some (.func (.yield l) #[] #[]):=hX.1.at_ rfl;have f2:C4 X ⟨Bd,0,none⟩ 4=some [.int .i64 (e:Int),.pointer ap,.int .i64 0,.map mb]:=hX.2.1.rows;have f3:=hX.2.2.row8 hk;exact Fa
  refine Lo (Fp lp) 4 (by kernel_rfl) (by rfl) (by kernel_rfl) (fun Q' hQ'=>?_);dsimp only[C6];have aB:=Lib.hid hQ';clear hQ';gi_wp2
  refine ⟨trivial,?_⟩;refine (CallsIn.inRound lp (callsIn_wide.2 (Vo bJ k hk (hks k)))).mono ?_;rintro x1 V5 ⟨u,rfl,ho,b5⟩;have Y5:=Y4.bl b5;have D5:=D4.bl b5;have K5:=K4.bl b5;have J5:=A8o (hJ z) J4 b5;have B5:=X4 B4 b5;have aK:=X4 S0 b5;have bL:=Nat.le_trans aX (Nat.le_of_lt K5.lt);have q1:(ps++[(⟨k,lookE L k,u,hk⟩:KV)]).map KV.id=(pre++[(⟨(k,x),hx⟩:PrS)]).map (·.1.1):=by rw[List.map_append,List.map_append,h1];rfl
  have q2:∀q∈ps++[(⟨k,lookE L k,u,hk⟩:KV)],q.ks=lookE L q.id:=by
   intro q hq;rcases List.mem_append.1 hq with hq | hq
   ·exact h2 q hq
   ·simp at hq;subst hq;rfl
  obtain⟨fn,tmps,aC,aS,hy,hR⟩:=Sn (m:=n-1) rfl 2 (hY z ps ⟨k,lookE L k,u,hk⟩ V5 J5 bL (by rw[bI,←aW];exact bG) ⟨ho.less B4.size,A8i hD.okE ht q1 q2 aP⟩);dsimp only[D9l]at hy;gi_wp2
  refine aB.out _ _ ⟨Y5,D5,K5⟩ ?_;clear aB;refine Lo (Fp lp) 5 (by kernel_rfl) (by rfl) (by kernel_rfl) (fun Q' hQ'=>?_);dsimp only[C6];have aB:=Lib.hid hQ';clear hQ';gi_wp2
  refine (show RoundIn (Fence.wide.inRound lp) 2 _ l fn tmps aC aS V5 _ from hR).mono ?_;rintro e6 V6 ⟨h6,⟨aY,aZ,bA⟩,bB⟩;have Y6:=bA _ _ _ (.inl rfl) Y5;have D6:=bA _ _ _ (.inr rfl) D5;have K6:=bB _ _ _ aX K5;have p1:KeepsFrom W2.heap.size V V6:=⟨Nat.le_trans aK.size aZ.size,fun r o hr ho hc=>aZ.same r o (by omega) ((Hd aK).same r o ho hc) hc⟩;have p2:=(aK.mono B3.size).trans aY;have p3:=(Cs.ext aK).trans bB;have p4:=B5.trans aY;clear hY hR hy J5 J4 h3 ho;rcases h6 with ⟨rfl,z',hz',hJ6⟩ | ⟨rfl,hJ6⟩
  ·gi_wp2
   refine aB.out _ _ ⟨Y6,D6,K6⟩ ?_;clear aB;refine Lo (Fp lp) 6 (by kernel_rfl) (by rfl) (by kernel_rfl) (fun Q' hQ'=>?_);dsimp only[C6];gi_wp2
   refine hQ' _ _ ⟨Y6,D6,K6⟩ ?_;refine A2g (by kernel_rfl) ?_;gi_wp2
   exact ⟨p1,p2,p3,z',hz',_,q1,q2,hJ6,Y6,D6,p4⟩
  ·gi_wp2
   refine aB.out _ _ ⟨Y6,D6,K6⟩ ?_;clear aB;refine Lo (Fp lp) 6 (by kernel_rfl) (by rfl) (by kernel_rfl) (fun Q' hQ'=>?_);dsimp only[C6];gi_wp2
   refine hQ' _ _ ⟨Y6,D6,K6⟩ ?_;refine A2g (by kernel_rfl) ?_;gi_wp2
   exact ⟨p1,p2,p3,rfl,_,q1,q2,hJ6,Y6,D6,p4⟩
 case aG=>
  rintro D z ys V bM rfl ⟨ps,h1,h2,h3,Y3,D3,B3⟩ aI;have aT:ps.map KV.en=L:=(A8i hD.okE ht h1 h2 (List.prefix_refl _)).eq_of_length (by
   have:=congrArg List.length h1;simp only[List.length_map]at this ⊢;rw[this,aW])
  dsimp only;go_wp2_with fail;refine ⟨by simp,.inl ⟨_,_,rfl,run_takeDeferred aI,?_⟩⟩;exact ⟨.tuple #[],by simp[results,Tryz.f96],⟨_,rfl⟩,.inl ⟨ps,z,aT,(hJ z).putObj _ h3 (by omega) aI rfl⟩⟩
 case aH=>
  rintro D cc pre V bM aU ⟨rfl,ps,h1,h2,h3,Y3,D3,B3⟩ aI;have aT:=A8i hD.okE ht h1 h2 aU;dsimp only;gi_wp2
  refine ⟨by simp,.inl ⟨_,_,rfl,run_takeDeferred aI,?_⟩⟩;exact ⟨.tuple #[],by simp[results,Tryz.f96],⟨_,rfl⟩,.inr ⟨ps,aT,aV.putObj _ h3 (by omega) aI rfl⟩⟩
end
section
attribute [local go_sem] Oper.semAt_some
theorem E0a {W W':World} (hb:Below W.heap.size W W'):KT W W':=fun _ _ _ _ h=>h.bl hb
theorem KT.trans {A B C:World} (h:KT A B) (k:KT B C):KT A C:=fun i T cs ht hb=>k i T cs ht (h i T cs ht hb)
theorem KT.putObj {W:World} {r:Nat} {o:Obj} (o':Obj) (ho:W.heap[r]?=some o) (hc:o.isCells=false):KT W (W.putObj r o'):=fun k T cs _ hb=>by
 unfold Bk at hb ⊢;rw[World.putObj_heap_other (fun e=>by subst e;rw[hb]at ho;injection ho with ho;subst ho;cases hc)];exact hb
theorem E5n {n0 l:Nat} {A B C:World} (h:KpD n0 l A B) (k:KpD n0 l B C):KpD n0 l A C:=⟨h.1.trans k.1,⟨Nat.le_trans h.2.1.size k.2.1.size,fun r o hr ho hc=>k.2.1.same r o hr (h.2.1.same r o hr ho hc) hc⟩,h.2.2.trans k.2.2⟩
theorem E7a {n0:Nat} {w:World} (hn:n0≤w.heap.size) (W:World) (o o':Obj) (h1:W.heap[w.heap.size+1]?=some o) (h2:o.isCells=false) (h3:o.isWalk=false):KpD n0 (w.heap.size+1) W (W.putObj (w.heap.size+1) o'):=
 ⟨belowK_b hn W _ o o' (by omega) h1 h2 h3,⟨by simp,fun r o2 hr ho hc=>(World.putObj_heap_other (by omega)).trans ho⟩,KT.putObj o' h1 h2⟩
attribute [local go_sem ↓ high] El
end
section
attribute [local go_sem] Oper.semAt_some
theorem Ry {i:Nat} (h:i<1000000):wrap64 ((i:Int)+1)=(i:Int)+1:=by unfold wrap64;omega
attribute [local go_sem ↓ high] El
end
section
variable {W W' : World} {row : Option Nat} {T : TypeId} {B : Nat}
theorem Nx.ne {T':TypeId} {g:Nat} (h:Nx W row T) (h':Nx W (some g) T') (hT:T'≠T):some g≠row:=by
 intro e;obtain⟨c,f,h1⟩:=h g e.symm;obtain⟨c',f',h2⟩:=h' g rfl;rw[h1]at h2;injection h2 with h2;injection h2 with _ h2;exact hT h2.symm
theorem Gp {g:Nat} {cs:List Value} (h:Bk W g T cs):Nx W (some g) T:=by
 intro g' hg;injection hg with hg;subst hg;exact ⟨_,_,h⟩
theorem Nx.grown {r:Option Nat} {T':TypeId} (h:Nx W r T') (hg:W.grownBy W' row) (hk:Nx W row T) (hT:T'≠T):Nx W' r T':=fun g e=>by
 obtain⟨c,f,h1⟩:=h g e;exact ⟨c,f,(hg.block g (Array.getElem?_eq_some_iff.1 h1).1 (hk.ne (fun g' e'=>by injection e' with e';subst e';exact ⟨c,f,h1⟩) hT)).trans h1⟩
theorem C6q {v:Value} {ks:List (List UInt8)} (h:Hs W 0 B v ks) (ht:Nx W v.ownBlock 40) (hg:W.grownBy W' row) (hk:Nx W row T) (hT:40≠T):Hs W' 0 B v ks:=by
 obtain⟨h0,A,c,h1,h2,h3,h4⟩:=h;refine ⟨h0,A,c,h1,h2,h3,?_⟩;rcases h4 with h4 | ⟨g,o,rfl,hl,hb,hc⟩
 ·exact .inl h4
 ·refine .inr ⟨g,o,rfl,hl,hb,fun j u hj=>?_⟩;obtain⟨aA,fz,h5⟩:=ht g (by rw[h1];rfl);have h6:W'.heap[g]?=W.heap[g]?:=hg.block g (Array.getElem?_eq_some_iff.1 h5).1 (hk.ne (fun g' e'=>by injection e' with e';subst e';exact ⟨aA,fz,h5⟩) hT);exact (World.cell?_of_block h6).trans (hc j u hj)
end
section
variable {P : Program} {l : List Oper} {Q : Exit → Act → World → Prop} {S : World → Prop} {w : World}
theorem C3r {done:List Nat} (i j m:Nat) (F:Value→Value→Value→Act) {ui uj um ri:Value} (T:World→Prop) (J M:Value→World→Prop) {o p q:Oper}
 (h0:Z8 l done [i,j]=true) (h1:Z8 l (done++[i]) [j]=true) (h2:Z8 l (done++[i]++[j]) [m]=true) (h3:Z8 l (done++[j]) [i,m]=true) (h4:Z8 l (done++[j]++[i]) [m]=true) (h5:Z8 l (done++[j]++[m]) [i]=true)
 (e1:(F2 l.length (done++[i]++[j]++[m])==F2 l.length (done++[i,j,m]))=true) (e2:(F2 l.length (done++[j]++[i]++[m])==F2 l.length (done++[i,j,m]))=true) (e3:(F2 l.length (done++[j]++[m]++[i])==F2 l.length (done++[i,j,m]))=true)
 (hi:l[i]?=some o) (hj:l[j]?=some p) (hm:l[m]?=some q)
 (gi:∀x y z,Region.wanted o (yielded l.toArray (F x y z).tmps)=true) (gj:∀x y z,Region.wanted p (yielded l.toArray (F x y z).tmps)=true) (gm:∀x y z,Region.wanted q (yielded l.toArray (F x y z).tmps)=true)
 (hS:S w) (hT:T w)
 (hI:∀y z W,S W→T W→∀Q':Exit→Act→World→Prop,Q' .normal (F ri y z) W→wpList P #[C6 o] Q' [C6 o] (F ui y z) W)
 (hJ:∀x,∀Q':Exit→Act→World→Prop,(∀y W',S W'→T W'→J y W'→Q' .normal (F x y um) W')→wpList P #[C6 p] Q' [C6 p] (F x uj um) w)
 (hM:∀x y W,S W→T W→J y W→∀Q':Exit→Act→World→Prop,(∀z W',S W'→T W'→M z W'→Q' .normal (F x y z) W')→wpList P #[C6 q] Q' [C6 q] (F x y um) W)
 (hR:∀y z W,S W→T W→M z W→P5 P l Q S (done++[i,j,m]) (F ri y z) W):P5 P l Q S done (F ui uj um) w:=by
 have aA:∀d:List Nat,d.length=(done++[i,j,m]).length→(F2 l.length d==F2 l.length (done++[i,j,m]))=true→∀y z W,S W→T W→M z W→P5 P l Q S d (F ri y z) W:=by intro d hd he y z W hS hT hM;exact C2x (by simp only[Bool.and_eq_true];exact ⟨he,by simpa using hd⟩) (hR y z W hS hT hM)
 refine B1l i j h0 hi hj (gi _ _ _) (gj _ _ _) (fun Q' hQ'=>?_) (fun Q' hQ'=>?_)
 ·refine hI _ _ _ hS hT _ (hQ' _ _ hS ?_);refine Gb j h1 hj (gj _ _ _) (fun Q' hQ'=>hJ _ _ fun y W2 S2 T2 J2=>hQ' _ _ S2 ?_);refine Gb m h2 hm (gm _ _ _) (fun Q' hQ'=>hM _ _ _ S2 T2 J2 _ fun z W3 S3 T3 M3=>hQ' _ _ S3 ?_);exact aA _ (by simp) e1 _ _ _ S3 T3 M3
 ·refine hJ _ _ fun y W1 S1 T1 J1=>hQ' _ _ S1 ?_;refine B1l i m h3 hi hm (gi _ _ _) (gm _ _ _) (fun Q' hQ'=>?_) (fun Q' hQ'=>?_)
  ·refine hI _ _ _ S1 T1 _ (hQ' _ _ S1 ?_);refine Gb m h4 hm (gm _ _ _) (fun Q' hQ'=>hM _ _ _ S1 T1 J1 _ fun z W3 S3 T3 M3=>hQ' _ _ S3 ?_);exact aA _ (by simp) e2 _ _ _ S3 T3 M3
  ·refine hM _ _ _ S1 T1 J1 _ fun z W2 S2 T2 M2=>hQ' _ _ S2 ?_;refine Gb i h5 hi (gi _ _ _) (fun Q' hQ'=>hI _ _ _ S2 T2 _ (hQ' _ _ S2 ?_));exact aA _ (by simp) e3 _ _ _ S2 T2 M2
end
def ByT (w:World) (v:Value) (l:List UInt8):Prop:=By w 0 w.heap.size v l∧Nx w v.ownBlock 5
theorem ByT.up {w w':World} {v:Value} {l:List UInt8} (h:ByT w v l) (hb:Below w.heap.size w w'):ByT w' v l:=⟨h.1.up hb,h.2.up hb⟩
section
variable {W W' : World} {row : Option Nat} {T : TypeId}
theorem ByT.grown {v:Value} {l:List UInt8} (h:ByT W v l) (hg:W.grownBy W' row) (hk:Nx W row T) (hT:5≠T):ByT W' v l:=by
 obtain⟨⟨A,c,e,h1,h2,h3⟩,ht⟩:=h;refine ⟨⟨A,c,e,h1,h2,?_⟩,ht.grown hg hk hT⟩;rcases h3 with h3 | ⟨b,o,rfl,hl,hb,hc⟩
 ·exact .inl h3
 ·refine .inr ⟨b,o,rfl,hl,Nat.lt_of_lt_of_le hb hg.size,fun j u hj=>?_⟩;obtain⟨aA,fz,h5⟩:=ht b (by rw[e];rfl);have h6:W'.heap[b]?=W.heap[b]?:=hg.block b hb (hk.ne (fun g' e'=>by injection e' with e';subst e';exact ⟨aA,fz,h5⟩) hT);exact (World.cell?_of_block h6).trans (hc j u hj)
def HsK (w:World) (v:Value) (ks:List (List UInt8)):Prop:=Hs w 0 w.heap.size v ks∧Nx w v.ownBlock 40∧(ks=[]→v=.slice none 0 0)
theorem HsK.up {w w':World} {v:Value} {ks:List (List UInt8)} (h:HsK w v ks) (hb:Below w.heap.size w w'):HsK w' v ks:=⟨(h.1.below hb).more hb.size,h.2.1.up hb,h.2.2⟩
theorem HsK.ks {w:World} {v:Value} {ks:List (List UInt8)} (h:HsK w v ks):KS w v ks:=by
 rcases ks with _ | ⟨k,ks⟩
 ·exact .inl ⟨h.2.2 rfl,rfl⟩
 ·exact .inr ⟨h.1,by simp,h.2.1⟩
theorem HsK.grown {v:Value} {ks:List (List UInt8)} (h:HsK W v ks) (hg:W.grownBy W' row) (hk:Nx W row T) (hT:40≠T):HsK W' v ks:=⟨(C6q h.1 h.2.1 hg hk hT).more hg.size,h.2.1.grown hg hk hT,h.2.2⟩
end
def C7d (w:World) (r:Gw) (q:G0):Prop:=r.id=q.1∧q.1.length=32∧HsK w r.s.v q.2.1∧r.m=⟨none,0,0⟩
def GwsAre (w:World):List Gw→List G0→Prop
 | [],[]=>True
 | r::R,q::L=>C7d w r q∧GwsAre w R L
 | _,_=>False
def BysAre (w:World):List Value→List G0→Prop
 | [],[]=>True
 | v::R,q::L=>ByT w v q.2.2∧BysAre w R L
 | _,_=>False
theorem GwsAre.map {w w':World} (f:∀ {v:Value} {ks:List (List UInt8)},HsK w v ks→HsK w' v ks):∀ {R:List Gw} {L:List G0},GwsAre w R L→GwsAre w' R L
 | [],[],_=>trivial
 | _::_,_::_,h=>⟨⟨h.1.1,h.1.2.1,f h.1.2.2.1,h.1.2.2.2⟩,GwsAre.map f h.2⟩
 | [],_::_,h=>h.elim
 | _::_,[],h=>h.elim
theorem BysAre.map {w w':World} (f:∀ {v:Value} {l:List UInt8},ByT w v l→ByT w' v l):∀ {R:List Value} {L:List G0},BysAre w R L→BysAre w' R L
 | [],[],_=>trivial
 | _::_,_::_,h=>⟨f h.1,BysAre.map f h.2⟩
 | [],_::_,h=>h.elim
 | _::_,[],h=>h.elim
theorem GwsAre.snoc {w:World} {r:Gw} {q:G0}:∀ {R:List Gw} {L:List G0},GwsAre w R L→C7d w r q→GwsAre w (R++[r]) (L++[q])
 | [],[],_,h=>⟨h,trivial⟩
 | _::_,_::_,h,k=>⟨h.1,GwsAre.snoc h.2 k⟩
 | [],_::_,h,_=>h.elim
 | _::_,[],h,_=>h.elim
theorem BysAre.snoc {w:World} {v:Value} {q:G0}:∀ {R:List Value} {L:List G0},BysAre w R L→ByT w v q.2.2→BysAre w (R++[v]) (L++[q])
 | [],[],_,h=>⟨h,trivial⟩
 | _::_,_::_,h,k=>⟨h.1,BysAre.snoc h.2 k⟩
 | [],_::_,h,_=>h.elim
 | _::_,[],h,_=>h.elim
structure ApO (w wr : World) (g gb : Nat) (pv ov bv : Value) (pl : List UInt8) (G G' : List G0) (s : RS) : Prop where
 rd:WRd wr g s
 box:Bk wr gb 147 [.pointer (some ⟨g,0,none⟩)]
 part:ByT wr pv pl
 out:∃R,GwsAre wr R G∧wr.ownsRow (g+1) 51 34 ov G.length (R.flatMap Gw.cells)
 bat:∃vs,BysAre wr vs G'∧wr.ownsRow (g+1) 38 1 bv G'.length vs
 below:Below w.heap.size w wr
 hg:w.heap.size≤g
section
variable {w wr w' : World} {g gb : Nat} {pv ov bv : Value} {pl : List UInt8} {G G' : List G0} {s s' : RS}
theorem ApO.up (h:ApO w wr g gb pv ov bv pl G G' s) (hb:Below wr.heap.size wr w'):ApO w w' g gb pv ov bv pl G G' s:=by
 obtain⟨R,h1,h2⟩:=h.out;obtain⟨vs,h3,h4⟩:=h.bat;exact ⟨h.rd.up hb,h.box.below hb h.box.lt,h.part.up hb,⟨R,h1.map fun x=>x.up hb,J7 h2 hb (Nat.le_refl _)⟩,⟨vs,h3.map fun x=>x.up hb,J7 h4 hb (Nat.le_refl _)⟩,C3 h.below hb h.below.size,h.hg⟩
theorem ApO.tk (h:ApO w wr g gb pv ov bv pl G G' s) (hT:TkR wr w' g s'):ApO w w' g gb pv ov bv pl G G' s':=by
 obtain⟨R,h1,h2⟩:=h.out;obtain⟨vs,h3,h4⟩:=h.bat;have hk:Nx wr (some g) 224:=by
  obtain⟨v,K,_⟩:=h.rd;exact Gp K
 have ne:∀ {T:TypeId} {sz n:Nat} {v:Value} {xs:List Value},wr.ownsRow (g+1) T sz v n xs→v.ownBlock=none∨v.ownBlock≠some g:=fun {T sz n v xs} ho=>by
  cases hv:v.ownBlock with
  | none=>exact .inl rfl
  | some k=>
   refine .inr fun e=>?_;injection e with e;have:=(ho.lt k hv).1;omega
 exact ⟨hT.rd,h.box.grown hT.gr (fun e=>by
  injection e with e;subst e;obtain⟨v,K,_⟩:=h.rd;exact Bk.apart K h.box (by decide) rfl),h.part.grown hT.gr hk (by decide),⟨R,h1.map fun x=>x.grown hT.gr hk (by decide),World.ownsRow.kept h2 hT.gr (ne h2)⟩,⟨vs,h3.map fun x=>x.grown hT.gr hk (by decide),World.ownsRow.kept h4 hT.gr (ne h4)⟩,h.below.grown hT.gr h.below.size (fun k e=>by cases e;exact h.hg),h.hg⟩
theorem ApO.appOut (h:ApO w wr g gb pv ov bv pl G G' s) {R:List Gw} (hR:GwsAre wr R G) (ho:wr.ownsRow (g+1) 51 34 ov G.length (R.flatMap Gw.cells)) {r:Gw} {q:G0} (hq:C7d wr r q) {A:Option Addr} {c:Nat}
 (h8:w'.ownsRow (g+1) 51 34 (.slice A (G.length+1) c) (G.length+1) (R.flatMap Gw.cells++r.cells)) (hB:Below (g+1) wr w') (hg8:wr.grownBy w' ov.ownBlock) :
 ApO w w' g gb pv (.slice A (G.length+1) c) bv pl (G++[q]) G' s:=by
 have hk:=Be ho;obtain⟨vs,h3,h4⟩:=h.bat;refine ⟨h.rd.below hB (by omega),h.box.grown hg8 (hk.ne (Gp h.box) (by decide)),h.part.grown hg8 hk (by decide),⟨R++[r],(hR.map fun x=>x.grown hg8 hk (by decide)).snoc ⟨hq.1,hq.2.1,hq.2.2.1.grown hg8 hk (by decide),hq.2.2.2⟩,?_⟩,⟨vs,h3.map fun x=>x.grown hg8 hk (by decide),World.ownsRow.kept h4 hg8 (H6 h4 ho (by decide))⟩,h.below.trans (hB.mono (by have:=h.hg;omega)),h.hg⟩;rw[List.length_append,List.length_singleton];simpa using h8
theorem ApO.appBat (h:ApO w wr g gb pv ov bv pl G G' s) {vs:List Value} (hV:BysAre wr vs G') (ho:wr.ownsRow (g+1) 38 1 bv G'.length vs) {v:Value} {q:G0} (hq:ByT wr v q.2.2) {A:Option Addr} {c:Nat}
 (h8:w'.ownsRow (g+1) 38 1 (.slice A (G'.length+1) c) (G'.length+1) (vs++[v])) (hB:Below (g+1) wr w') (hg8:wr.grownBy w' bv.ownBlock) :
 ApO w w' g gb pv ov (.slice A (G'.length+1) c) pl G (G'++[q]) s:=by
 have hk:=Be ho;obtain⟨R,h1,h2⟩:=h.out;refine ⟨h.rd.below hB (by omega),h.box.grown hg8 (hk.ne (Gp h.box) (by decide)),h.part.grown hg8 hk (by decide),⟨R,h1.map fun x=>x.grown hg8 hk (by decide),World.ownsRow.kept h2 hg8 (H6 h2 ho (by decide))⟩,⟨vs++[v],(hV.map fun x=>x.grown hg8 hk (by decide)).snoc (hq.grown hg8 hk (by decide)),?_⟩,h.below.trans (hB.mono (by have:=h.hg;omega)),h.hg⟩;rw[List.length_append,List.length_singleton];exact h8
end
end Go.Proofs.YtmllnpokbbabhaaGreat
