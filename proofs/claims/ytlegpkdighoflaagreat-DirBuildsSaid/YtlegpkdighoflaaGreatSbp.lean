/- A part of the proof of DirBuilds. -/
import Derived.RangeFuncNested
import Derived.RangeFuncBound
import Derived.RangeFuncCalls
import Derived.RangeFuncLeaves
import Derived.RangeFuncKeeps
import Derived.Shelf.Abstract
import Derived.Shelf.RegionOpen
import Derived.WalkKit
import Derived.OwnWalkIn
import Derived.TacticsInMore
import Derived.Outline
import Derived.Test.YtlegpkdighoflaaGreatSbn
set_option linter.unusedVariables false
set_option linter.unusedSimpArgs false
set_option maxRecDepth 100000
set_option maxHeartbeats 40000000
namespace Go.Proofs.YtlegpkdighoflaaGreat
open Go Go.RowKit Sh
section
def Dl (z:Nat) (W W':World):Prop:=∀(k T:Nat) (cs:List Value),z≤k→Bk W k T cs→Bk W' k T cs
theorem Dl.trans {z:Nat} {A B C:World} (h:Dl z A B) (k:Dl z B C):Dl z A C:=fun i T cs hi hb=>k i T cs hi (h i T cs hi hb)
theorem Dl.putObj (z:Nat) {W:World} {r:Nat} {o:Obj} (o':Obj) (ho:W.heap[r]?=some o) (hc:o.isCells=false):Dl z W (W.putObj r o'):=fun k T cs _ hb=>by
 unfold Bk at hb ⊢;rw[World.putObj_heap_other (fun e=>by subst e;rw[hb]at ho;injection ho with ho;subst ho;cases hc)];exact hb
def E0x {α:Type} (B z:Nat) (Kp:World→World→Prop) (I:Nat→List α→World→Prop) (Ix:Code→List α→World→Prop) (xs:List α) (W:World):Exit→Act→World→Prop
 | .normal,_,W'=>KeepsFrom B W W'∧Kp W W'∧Dl z W W'∧∃z',z'≤W'.heap.size∧I z' xs W'
 | .ret,_,W'=>KeepsFrom B W W'∧Kp W W'∧Dl z W W'∧Ix .ret xs W'
 | .exit id,_,W'=>KeepsFrom B W W'∧Kp W W'∧Dl z W W'∧Ix (.exit id) xs W'
 | .goto t,_,W'=>KeepsFrom B W W'∧Kp W W'∧Dl z W W'∧Ix (.goto t) xs W'
 | .panic _,_,_=>False
 | .outgrown,_,_=>False
def D6v {α:Type} (F:Fence) (n:Nat) (P:Program) (g:Nat) (lb:Array Value) (encs:α→Array Value) (Kp:Nat→World→World→Prop) (Good:List α→α→World→Prop) (S Sp:List α→Prop) (N:Nat) (w:World):Prop:=
 ∀(l:Nat) (J:Nat→List α→World→Prop) (Jx:List α→World→Prop) (W:World),l<W.heap.size→Below w.heap.size w W→(∀z,OwnFrom W.heap.size (J z))→OwnFrom W.heap.size Jx→
  (∀z pre x W1,J z pre W1→z≤W1.heap.size→pre.length<N→Good pre x W1→YieldAt F (n-1) P l (encs x) W1 fun e W'=>
   ((e=.returned (.bool true)∧∃z',z'≤W'.heap.size∧J z' (pre++[x]) W')∨(e=.returned (.bool false)∧Jx (pre++[x]) W'))∧Kp l W1 W'∧Dl z W1 W')→
  (∃z,z≤W.heap.size∧J z [] W)→
  CallsIn F n P g (#[.func (.yield l) #[] #[]]++lb) W fun e W'=>(∃v,e=.returned v)∧((∃xs z,S xs∧J z xs W')∨(∃pre,Sp pre∧Jx pre W'))
theorem stays {B r:Nat} {W W':World} {o:Obj} (hk:KeepsFrom B W W') (hr:B≤r) (ho:W.heap[r]?=some o) (hc:o.isCells=false):W'.heap[r]?=some o:=hk.same r o hr ho hc
section
variable {F : Fence} {n : Nat} {P : Program} {w : World}
theorem B4c {α:Type} {g:Operand} {ps:Array Tmp} {assign body:Code} {Q:Exit→Act→World→Prop} {a:Act}
 (hro:F.round=none) (h1:1≤n) {gf:Nat} {lb:Array Value} (hg:a.eval g=.func (.func gf) #[] lb) (hFg:F.fn gf) (eg:∀args w,(callFunc gf args).run P w=.ok (.enter gf args) w)
 {encs:α→Array Value} {Kp:Nat→World→World→Prop} {Good:List α→α→World→Prop} {S Sp:List α→Prop} {N:Nat} {w0:World} (hseq:D6v F (n-1) P gf lb encs Kp Good S Sp N w0)
 (hKt:∀ {A B C:World},Kp (w.heap.size+1) A B→Kp (w.heap.size+1) B C→Kp (w.heap.size+1) A C) (hKb:∀(W:World) (o o':Obj),W.heap[w.heap.size+1]?=some o→o.isCells=false→o.isWalk=false→Kp (w.heap.size+1) W (W.putObj (w.heap.size+1) o')) (hb0:Below w0.heap.size w0 w) (hps:∀x,(encs x).size=ps.size)
 (I:Nat→List α→World→Prop) (Ix:Code→List α→World→Prop) (hI:∀z,OwnFrom w.heap.size (I z)) (hIx:∀c,OwnFrom w.heap.size (Ix c)) (h0:∃z,z≤w.heap.size∧I z [] w)
 (Ax:Nat→List α→World→α→Act→World→Prop) (hAx:∀z pre Z x a',OwnFrom w.heap.size (fun (_:Unit) W=>Ax z pre Z x a' W))
 (hassign:∀(l z:Nat) (pre:List α) (x:α) (W:World) (K:Act→World→Prop),I z pre W→z≤W.heap.size→Good pre x W→(∀a' W',KeepsFrom w.heap.size W W'→Kp (w.heap.size+1) W W'→Dl z W W'→Ax z pre W x a' W'→K a' W')→
  assign.wpIn (F.inRound l) (n-1-1) P (Exit.then K (fun _ _ _=>False)) { tmps:=(ps.zip (encs x)).foldl (fun t (p,v)=>t.setIfInBounds p v) a.tmps,defers:=[] } W)
 (hbody:∀(l z:Nat) (pre:List α) (x:α) (a':Act) (Z W:World),w.heap.size≤l→(∃r,W.heap[l]?=some (.loop r))→I z pre Z→z≤Z.heap.size→Ax z pre Z x a' W→pre.length<N→body.wpIn (F.inRound l) (n-1-1) P (E0x w.heap.size z (Kp (w.heap.size+1)) I Ix (pre++[x]) W) a' W)
 (hdone:∀(D z:Nat) (xs:List α) (W:World),w.heap.size≤D→S xs→I z xs W→W.heap[D]?=some (.deferred (some []))→Q .normal { a with defers:={ target:=.collected D,args:=#[] }::a.defers } W)
 (hstop:∀(D:Nat) (c:Code) (pre:List α) (W:World),w.heap.size≤D→Sp pre→Ix c pre W→W.heap[D]?=some (.deferred (some []))→c.wpIn F n P Q { a with defers:={ target:=.collected D,args:=#[] }::a.defers } W) :
 (Code.rangeFunc g ps assign body).wpIn F n P Q a w:=by
 refine wpIn_rangeFunc fun fn hfn=>?_;rw[hro];generalize hR:(fun (st:LoopState) (pe:Option Code)=>({ state:=st,pending:=pe,fn,tmps:=a.tmps,params:=ps,assign,body,defers:=w.heap.size }:Loop))=R;have eR:∀st pe,R st pe={ state:=st,pending:=pe,fn,tmps:=a.tmps,params:=ps,assign,body,defers:=w.heap.size }:=fun st pe=>by rw[←hR]
 clear hR;obtain⟨V,hV⟩:∃V,V=(w.alloc (.deferred (some []))).alloc (.loop (R .ready none)):=⟨_,rfl⟩;have vs:V.heap.size=w.heap.size+2:=by rw[hV];simp
 have vL:V.heap[w.heap.size+1]?=some (.loop (R .ready none)):=by rw[hV];simpa using World.alloc_heap_new (w.alloc (.deferred (some []))) (.loop (R .ready none))
 have vD:V.heap[w.heap.size]?=some (.deferred (some [])):=by rw[hV];exact (Below.heap_alloc _ _ _ (by simp)).trans (World.alloc_heap_new w _)
 have vI:∃z,z≤V.heap.size∧I z [] V:=by obtain⟨z,hz,h⟩:=h0;refine ⟨z,by omega,?_⟩;rw[hV];exact (hI z).alloc _ ((hI z).alloc _ h)
 have vB:Below w0.heap.size w0 V:=by rw[hV];exact hb0.trans ((((Below.refl _ w).alloc (Nat.le_refl _) _).alloc (by simp) _).mono hb0.size)
 refine ⟨w.heap.size+1,[{ target:=.collected w.heap.size,args:=#[] }],V,{ target:=.fn (.func gf) lb,args:=#[.func (.yield (w.heap.size+1)) #[] #[]] },V,gf,#[.func (.yield (w.heap.size+1)) #[] #[]]++lb,V,?_,?_,?_,?_,fun _=>h1,?_⟩
 ·rw[hV,eR];exact run_enterLoop_outer _ _ _ _ _
 ·simp only[resolve,hg];simp[go_sem]
 ·intro f' aJ;simp[Target.leads]at aJ;subst aJ;exact hFg
 ·simp[invoke,go_sem,eg]
 let Own2:Loop→World→Prop:=fun r W=>W.heap[w.heap.size+1]?=some (.loop r)∧W.heap[w.heap.size]?=some (.deferred (some []))
 have aG:∀ {r:Loop} {A B:World} {aB:Option Nat},Own2 r A→A.grownBy B aB→(∀q,aB=some q→V.heap.size≤q∧∃o:Obj,A.heap[q]?=some o∧o.isCells=false)→Own2 r B:=by
  intro r A B aB h aE hr;have hc:∀q,aB=some q→w.heap.size+2≤q:=fun q e=>by rw[←vs];exact (hr q e).1
  exact ⟨(aE.block _ (Array.getElem?_eq_some_iff.1 h.1).1 (fun e=>by have:=hc _ e.symm;omega)).trans h.1,(aE.block _ (Array.getElem?_eq_some_iff.1 h.2).1 (fun e=>by have:=hc _ e.symm;omega)).trans h.2⟩
 have aA:∀ {A:World} {aB:Option Nat},(∀q,aB=some q→V.heap.size≤q∧∃o:Obj,A.heap[q]?=some o∧o.isCells=false)→∀q,aB=some q→w.heap.size≤q∧∃o:Obj,A.heap[q]?=some o∧o.isCells=false:=by intro A aB hr q e;obtain⟨h2,o,h3,h4⟩:=hr q e;exact ⟨by omega,o,h3,h4⟩
 refine (hseq (w.heap.size+1) (fun z pre W=>I z pre W∧Own2 (R .ready none) W) (fun pre W=>∃c,Ix c pre W∧Own2 (R .done (some c)) W) V (by omega) vB
  (fun z s A B aB hs aE hr=>⟨hI z s A B aB hs.1 aE (aA hr),aG hs.2 aE hr⟩)
  (fun s A B aB hs aE hr=>by
   obtain⟨c,hc,h2⟩:=hs;exact ⟨c,hIx c s A B aB hc aE (aA hr),aG h2 aE hr⟩)
  ?round (by obtain⟨z,hz,h⟩:=vI;exact ⟨z,hz,h,vL,vD⟩)).mono ?after
 case round=>
  rintro z pre x W ⟨hi,hl,hd⟩ hz aI aH;have hy:=run_yield (P:=P) (args:=encs x) hl (by rw[eR];exact hps x);rw[eR]at hy;refine ⟨fn,_,assign,body,hy,roundIn_of_wpIn hfn (hassign _ z pre x W _ hi hz aH fun a' X hX hKX hzX haX=>?_)⟩;clear hy;have xl:=stays hX (by omega) hl rfl;have xd:=stays hX (Nat.le_refl _) hd rfl;have xs:w.heap.size+1<X.heap.size:=(Array.getElem?_eq_some_iff.1 xl).1;refine ⟨_,run_beginRound xl (by rw[eR]),?_⟩;obtain⟨Y,hY⟩:∃Y,Y=X.putObj (w.heap.size+1) (.loop { R .ready none with state:=.busy }):=⟨_,rfl⟩;have yl:Y.heap[w.heap.size+1]?=some (.loop { R .ready none with state:=.busy }):=by rw[hY];exact World.putObj_heap_same xs
  have yd:Y.heap[w.heap.size]?=some (.deferred (some [])):=by rw[hY];exact (World.putObj_heap_other (by omega)).trans xd
  have yK:Kp (w.heap.size+1) X Y:=by rw[hY];exact hKb _ _ _ xl rfl rfl
  have yz:Dl z X Y:=by rw[hY];exact Dl.putObj z _ xl rfl
  have yA:Ax z pre W x a' Y:=by rw[hY];exact (hAx z pre W x a').putObj (s:=()) _ haX (by omega) xl rfl
  rw[←hY];refine wpIn_mono (hbody _ z pre x a' W Y (by omega) ⟨_,yl⟩ hi hz yA aI) ?_;have aC:∀(j:Option Code) (Z:World),KeepsFrom w.heap.size Y Z→Kp (w.heap.size+1) Y Z→Dl z Y Z→
   (Instr.endRound (w.heap.size+1) j).run P Z=.ok (.bool j.isNone) (Z.putObj (w.heap.size+1) (.loop (R (if j.isNone then .ready else .done) j)))∧Z.heap[w.heap.size+1]?=some (.loop { R .ready none with state:=.busy })∧
   Own2 (R (if j.isNone then .ready else .done) j) (Z.putObj (w.heap.size+1) (.loop (R (if j.isNone then .ready else .done) j)))∧
   Kp (w.heap.size+1) W (Z.putObj (w.heap.size+1) (.loop (R (if j.isNone then .ready else .done) j)))∧Dl z W (Z.putObj (w.heap.size+1) (.loop (R (if j.isNone then .ready else .done) j))):=by
   intro j Z hZ hk aD;have zl:=stays hZ (by omega) yl rfl;have zd:=stays hZ (Nat.le_refl _) yd rfl;have he:=run_endRound (P:=P) j zl;have k1:=hKb _ _ (.loop (R (if j.isNone then .ready else .done) j)) zl rfl rfl;have k2:=Dl.putObj z (.loop (R (if j.isNone then .ready else .done) j)) zl rfl;rw[eR]at he;rw[eR]at zl;simp only[eR]at he zl k1 k2 ⊢;exact ⟨he,zl,⟨World.putObj_heap_same (Array.getElem?_eq_some_iff.1 zl).1,(World.putObj_heap_other (by omega)).trans zd⟩,hKt hKX (hKt (hKt yK hk) k1),hzX.trans ((yz.trans aD).trans k2)⟩
  rintro e a3 Z hp;cases e with
  | normal=>
   obtain⟨hZ,hk,aD,z',aK,aF⟩:=hp;obtain⟨hr,zl,h2,h3,h4⟩:=aC none Z hZ hk aD;exact ⟨_,_,hr,.inl ⟨rfl,z',by simpa using aK,(hI z').putObj _ aF (by omega) zl rfl,h2⟩,h3,h4⟩
  | ret=>
   obtain⟨hZ,hk,aD,aF⟩:=hp;obtain⟨hr,zl,h2,h3,h4⟩:=aC (some .ret) Z hZ hk aD;exact ⟨_,_,hr,.inr ⟨rfl,.ret,(hIx _).putObj _ aF (by omega) zl rfl,h2⟩,h3,h4⟩
  | exit id=>
   obtain⟨hZ,hk,aD,aF⟩:=hp;obtain⟨hr,zl,h2,h3,h4⟩:=aC (some (.exit id)) Z hZ hk aD;exact ⟨_,_,hr,.inr ⟨rfl,.exit id,(hIx _).putObj _ aF (by omega) zl rfl,h2⟩,h3,h4⟩
  | goto t=>
   obtain⟨hZ,hk,aD,aF⟩:=hp;obtain⟨hr,zl,h2,h3,h4⟩:=aC (some (.goto t)) Z hZ hk aD;exact ⟨_,_,hr,.inr ⟨rfl,.goto t,(hIx _).putObj _ aF (by omega) zl rfl,h2⟩,h3,h4⟩
  | panic ch=>exact hp.elim
  | outgrown=>exact hp.elim
 case after=>
  rintro e W2 ⟨⟨v,rfl⟩,(⟨xs,z,hS,hi,hl,hd⟩ | ⟨pre,hS,c,hi,hl,hd⟩)⟩
  ·have he:=run_endLoop (P:=P) hl (by rw[eR];simp);rw[eR]at he;exact ⟨none,_,he,hdone _ z xs _ (Nat.le_refl _) hS ((hI z).putObj _ hi (by omega) hl rfl) ((World.putObj_heap_other (by omega)).trans hd)⟩
  ·have he:=run_endLoop (P:=P) hl (by rw[eR];simp);rw[eR]at he;exact ⟨some c,_,he,hstop _ c pre _ (Nat.le_refl _) hS ((hIx c).putObj _ hi (by omega) hl rfl) ((World.putObj_heap_other (by omega)).trans hd)⟩
end
end
section
attribute [local go_sem] Oper.semAt_some
theorem D3c (l n₀:Nat) (T:List PrS) (J Jx:List PrS→World→Prop)
 (hY:∀m pre (x:PrS) W,J pre W→pre++[x] <+: T→YieldAt Fence.wide m Tryz.prog l (C7u x) W fun e W'=>
  (e=.returned (.bool true)∧J (pre++[x]) W'∧Below n₀ W W')∨(e=.returned (.bool false)∧Jx (pre++[x]) W'))
 (hJd:∀pre W k,J pre W→J pre (W.drewN k)) (t:Tr) :
 ∀(d:Nat) (P:Nat→Bool) (n:Nat) (p:Value) (pre:List PrS) (W:World),Ok d P t→At W n₀ t p→J pre W→pre++t.prs <+: T→
  CallsIn Fence.wide n Tryz.prog 72 #[p,.func (.yield l) #[] #[]] W fun e W'=>
   (e=.returned (.bool true)∧J (pre++t.prs) W'∧Below n₀ W W')∨(e=.returned (.bool false)∧∃q,q <+: t.prs∧Jx (pre++q) W'):=by
 induction t with
 | e=>
  intro d P n p pre W ok ht hJ hN;obtain rfl:p=.pointer none:=ht;refine callsIn_of_wp Tryz.func72 rfl trivial ?_ rfl;simp only[Tryz.ntmps72,List.size_toArray,List.length_cons,List.length_nil,Nat.reduceAdd,Nat.reduceSub,Array.replicate_succ,Array.replicate_zero,List.push_toArray,List.append_toArray,List.nil_append,List.cons_append];gi_wp2_with ((try refine ⟨trivial,?_⟩);(try refine ⟨hdw _,?_⟩);gi_at_call 45;refine (callsIn_wide.2 (Rs .e (.pointer none) W n₀ rfl)).mono ?_;rintro e W1 ⟨rfl,rfl⟩;dsimp only[Tr.len])
  go_ret;exact .inl ⟨rfl,by simpa [Tr.prs] using hJ,Below.refl _ _⟩
 | lf k v=>
  intro d P n p pre W ok ht hJ hN;obtain⟨g,rfl,hg,hk,hv,hb⟩:=ht;have hp:Jh (k,v):=⟨hk,hv⟩;have aD:(Tr.lf k v).prs=[⟨(k,v),hp⟩]:=by simp[Tr.prs,hp]
  rw[aD]at hN ⊢;have aH:=Vk hb hk;have aI:=A0o hb hk hv;have aR:E5 W.drew ⟨g,0,none⟩ 32=some (c8 k):=aH;have aS:E5 W.drew ⟨g,32,none⟩ 32=some (c8 v):=aI;have aE:At W n₀ (.lf k v) (.pointer (some ⟨g,0,none⟩)):=⟨g,rfl,hg,hk,hv,hb⟩;have aJ:Tryz.prog.follows .mixedOrders=true:=by kernel_rfl
  refine callsIn_of_wp Tryz.func72 rfl trivial ?_ rfl;simp only[Tryz.ntmps72,List.size_toArray,List.length_cons,List.length_nil,Nat.reduceAdd,Nat.reduceSub,Array.replicate_succ,Array.replicate_zero,List.push_toArray,List.append_toArray,List.nil_append,List.cons_append];gi_wp2_with ((try refine ⟨trivial,?_⟩);(try refine ⟨hdw _,?_⟩);gi_at_call 45;refine (callsIn_wide.2 (Rs (.lf k v) _ W n₀ aE)).mono ?_;rintro e W1 ⟨rfl,aB⟩;rw[aB];clear aB;dsimp only[Tr.len])
  refine Xz A4w (fun w'=>∃k,w'=W.drewN k) 9 aJ (by kernel_rfl) (by kernel_rfl) ⟨1,rfl⟩ ?_;simp only[List.take_succ_cons,List.take_zero,List.drop_succ_cons,List.drop_zero];repeat (go_big_quiet_step (fail))
  refine wpQuiet_nil ?_;rintro w1 ⟨nq,rfl⟩;obtain⟨fn,tmps,aF,aK,hy,hR⟩:=hY (n-1) pre ⟨(k,v),hp⟩ (W.drewN nq) (hJd _ _ _ hJ) hN;dsimp only[C7u]at hy;gi_wp2_with ((try refine ⟨trivial,?_⟩);(try refine ⟨hdw _,?_⟩);refine hR.mono ?_;rintro e W2 (⟨rfl,hJ2,hb2⟩ | ⟨rfl,hx2⟩))
  ·go_ret;exact .inl ⟨rfl,hJ2,(U1 (Below.refl n₀ W) nq).trans hb2⟩
  ·go_ret;exact .inr ⟨rfl,[⟨(k,v),hp⟩],List.prefix_refl _,hx2⟩
 | nd tl tr ihl ihr=>
  intro d P n p pre W ok ht hJ hN;have aE:=ht;obtain⟨g,pl,pr,rfl,hg,hb,aA,aC⟩:=ht;obtain⟨al,rfl⟩:=aA.form;obtain⟨ar,rfl⟩:=aC.form;have c0:=Ro hb (U6 32) (U6 32);have c1:=Mv hb (U6 32) (U6 32);have aL:2≤(Tr.nd tl tr).len:=ok.2.1;simp only[Tr.prs]at hN;have aM:pre++tl.prs <+: T:=List.IsPrefix.trans ⟨tr.prs,by simp⟩ hN;have aN:(pre++tl.prs)++tr.prs <+: T:=by simpa using hN
  obtain⟨m,hm⟩:∃m,m=(Tr.nd tl tr).len:=⟨_,rfl⟩;rw[←hm]at aL;have Hm:=Lib.hid hm.symm;clear hm;have aO:((m:Int)==0)=false:=by rw[beq_eq_false_iff_ne];omega
  have aP:((m:Int)==1)=false:=by rw[beq_eq_false_iff_ne];omega
  have aG:=(ihl (d+1) _ (n-1) _ pre W ok.2.2.1 aA hJ aM).mono (R':=fun e W1=>
   (e=.returned (.bool true)∧J (pre++tl.prs) W1∧W1.cell? ⟨g,65,none⟩=some (.pointer ar)∧At W1 n₀ tr (.pointer ar)∧Below n₀ W W1)∨
   (e=.returned (.bool false)∧∃q,q <+: tl.prs∧Jx (pre++q) W1))
   (fun e W1 h=>h.elim (fun ⟨he,hj,hb1⟩=>.inl ⟨he,hj,(hb1.cell (p:=⟨g,65,none⟩) hg).trans c1,aC.below hb1,hb1⟩) .inr)
  clear ihl hb aA;refine callsIn_of_wp Tryz.func72 rfl trivial ?_ rfl;simp only[Tryz.ntmps72,List.size_toArray,List.length_cons,List.length_nil,Nat.reduceAdd,Nat.reduceSub,Array.replicate_succ,Array.replicate_zero,List.push_toArray,List.append_toArray,List.nil_append,List.cons_append];gi_wp2_with (first
   | ((try refine ⟨trivial,?_⟩);(try refine ⟨hdw _,?_⟩);gi_at_call 45;refine (callsIn_wide.2 (Rs (.nd tl tr) _ W n₀ aE)).mono ?_;rintro e W1 ⟨rfl,aB⟩;rw[aB,Hm.out];clear aB)
   | ((try refine ⟨trivial,?_⟩);(try refine ⟨hdw _,?_⟩);gi_at_call 72;refine aG.mono ?_;clear aG;rintro e W1 (⟨rfl,hJ1,c1',hatr1,hb1⟩ | ⟨rfl,q,hq,hx1⟩))
   | ((try refine ⟨trivial,?_⟩);(try refine ⟨hdw _,?_⟩);gi_at_call 72;refine (ihr (d+1) _ (n-1) _ _ _ ok.2.2.2 hatr1 hJ1 aN).mono ?_;rintro e W3 (⟨rfl,hJ3,hb3⟩ | ⟨rfl,q,hq,hx3⟩)))
  ·go_ret;exact .inl ⟨rfl,by simpa [Tr.prs,List.append_assoc] using hJ3,hb1.trans hb3⟩
  ·go_ret;obtain⟨r,aQ⟩:=hq;exact .inr ⟨rfl,tl.prs++q,⟨r,by simp[Tr.prs,←aQ]⟩,by simpa [List.append_assoc] using hx3⟩
  ·refine ⟨trivial,?_⟩;gi_wp2
   go_ret;exact .inr ⟨rfl,q,hq.trans (by simp[Tr.prs]),hx1⟩
theorem C8g (n l Bt n₀:Nat) (p0:Value) (dd:Value) (t:Tr) (d:Nat) (P:Nat→Bool) (ok:Ok d P t) (J Jx:List PrS→World→Prop)
 (hY:∀pre (x:PrS) W,J pre W→pre++[x] <+: t.prs→YieldAt Fence.wide (n-1) Tryz.prog l (C7u x) W fun e W'=>
  (e=.returned (.bool true)∧J (pre++[x]) W'∧Below n₀ W W')∨(e=.returned (.bool false)∧Jx (pre++[x]) W'))
 (hJd:∀pre W k,J pre W→J pre (W.drewN k)) (W:World) (hBt:Bk W Bt 31 [p0,dd]) (hT:At W n₀ t p0) (h0:J [] W) :
 CallsIn Fence.wide n Tryz.prog 71 #[.func (.yield l) #[] #[],.pointer (some ⟨Bt,0,none⟩)] W fun e W'=>(∃v,e=.returned v)∧
  ((∃ys,ys=t.prs∧J ys W')∨(∃pre,pre <+: t.prs∧Jx pre W')):=by
 obtain⟨ap,rfl⟩:=hT.form;have c0:W.cell? ⟨Bt,0,none⟩=some (.pointer ap):=hBt.at_ rfl;have hp:=D3c l n₀ t.prs J Jx (fun m pre x W hj hl=>Rx rfl m (hY pre x W hj hl)) hJd t d P (n-1) _ [] W ok hT h0 (List.prefix_refl _);refine callsIn_of_wp Tryz.func71 rfl trivial ?_ rfl;simp only[Tryz.ntmps71,List.size_toArray,List.length_cons,List.length_nil,Nat.reduceAdd,Nat.reduceSub,Array.replicate_succ,Array.replicate_zero,List.push_toArray,List.append_toArray,List.nil_append,List.cons_append];gi_wp2_with ((try refine ⟨trivial,?_⟩);(try refine ⟨hdw _,?_⟩);gi_at_call 72;refine hp.mono ?_;clear hp;rintro e W1 (⟨rfl,hJ1,_⟩ | ⟨rfl,q,hq,hx⟩))
 ·go_end0
  exact ⟨⟨_,rfl⟩,.inl ⟨_,rfl,by simpa using hJ1⟩⟩
 ·go_end0
  exact ⟨⟨_,rfl⟩,.inr ⟨q,hq,by simpa using hx⟩⟩
theorem E2d (n Bt n₀:Nat) (p0 dd:Value) (t:Tr) (d:Nat) (P:Nat→Bool) (ok:Ok d P t) (w:World) (hBt:Bk w Bt 31 [p0,dd]) (hn₀:n₀≤w.heap.size) (hT:At w n₀ t p0) :
 D6v Fence.wide n Tryz.prog 71 #[.pointer (some ⟨Bt,0,none⟩)] C7u (fun _=>Below n₀) (fun pre x _=>pre++[x] <+: t.prs) (fun ys=>ys=t.prs) (fun pre=>pre <+: t.prs) t.prs.length w:=by
 intro l J Jx W hl hW hJ aD hY h0;refine (C8g n l Bt n₀ p0 dd t d P ok (fun pre V=>∃z,z≤V.heap.size∧J z pre V) Jx (fun pre x V hj hp=>?_) (fun pre V k hv=>?_) W (hBt.below hW hBt.lt) (hT.below (hW.mono hn₀)) h0).mono ?_
 ·obtain⟨z,hz,hj⟩:=hj;have aB:pre.length<t.prs.length:=by have:=hp.length_le;simp at this;omega
  obtain⟨fn,tmps,aA,aC,hy,hR⟩:=hY z pre x V hj hz aB hp;refine ⟨fn,tmps,aA,aC,hy,hR.mono fun e W' he=>?_⟩;obtain⟨h1 | h1,h2,h3⟩:=he
  ·exact .inl ⟨h1.1,h1.2,h2⟩
  ·exact .inr h1
 ·obtain⟨z,hz,hj⟩:=hv;exact ⟨z,hz,hJ z pre V (V.drewN k) none hj ⟨rfl,rfl,rfl,Nat.le_refl _,fun _ _ _=>rfl⟩ (fun r e=>by cases e)⟩
 ·rintro e W' ⟨h1,⟨xs,h2,z,_,h3⟩ | h2⟩
  ·exact ⟨h1,.inl ⟨xs,z,h2,h3⟩⟩
  ·exact ⟨h1,.inr h2⟩
end
section
attribute [local go_sem] Oper.semAt_some
structure KV where
 id:List UInt8
 ks:List (List UInt8)
 v:Value
 ok:id.length=32
def D1q (x:KV):Array Value:=#[A8 x.id,x.v]
def KV.en (x:KV):En:=(x.id,x.ks)
def KT (W W':World):Prop:=∀(k T:Nat) (cs:List Value),T=108∨T=34→Bk W k T cs→Bk W' k T cs
theorem B1o (a b c d:Value) (w:World) (n:Nat) :
 CallsIn Fence.wide n Tryz.prog 25 #[.agg #[a,b,c,d]] w fun e w'=>e=.returned (.func (.func 48) #[] #[.pointer (some ⟨w.heap.size,0,none⟩)])∧w'=w.alloc (.cells #[a,b,c,d] 34):=by
 refine callsIn_of_wp Tryz.func25 rfl trivial ?_ rfl;simp only[Tryz.ntmps25,List.size_toArray,List.length_cons,List.length_nil,Nat.reduceAdd,Nat.reduceSub,Array.replicate_succ,Array.replicate_zero,List.push_toArray,List.append_toArray,List.nil_append,List.cons_append];gi_wp2
 go_ret;exact ⟨rfl,rfl⟩
def KpD (n0 l:Nat) (W W':World):Prop:=Below n0 W W'∧KeepsFrom (l+1) W W'∧KT W W'
theorem A5g {w:World} {x:Int} {ap:Option Addr} {mb:Option Nat} {e N:Nat} {L:List En} {t:Tr} (h:DirIs w (.agg #[.int .i64 x,.pointer ap,.int .i64 0,.map mb]) e L N) (ht:IsTree t L):At w w.heap.size t (.pointer ap):=by
 obtain⟨aA,mv,m,s,h1,h2,h3,h4,h5,h6,h7⟩:=h;have h8:=congrArg (fun v=>match v with | .agg a=>a.toList | _=>[]) h1;simp at h8;obtain rfl:=ht.uniq ⟨h5,h6⟩;rw[h8.2.1];exact h7
theorem C8t {W W':World} (hb:Below W.heap.size W W'):W.grownBy W' none:=⟨hb.os,hb.tape,hb.output,hb.size,fun k hk _=>hb.block k (by omega)⟩
theorem A7m {β:Type} {B:Nat} {I:β→World→Prop} (h:OwnFrom B I) {s:β} {W W':World} (hs:I s W) (hb:Below W.heap.size W W'):I s W':=h s W W' none hs (C8t hb) (fun r e=>by cases e)
theorem Cq {W W':World} (hb:Below W.heap.size W W'):KeepsOthers W W':=⟨hb.size,fun k o hk _=>by rw[hb.block k (Array.getElem?_eq_some_iff.1 hk).1];exact hk⟩
theorem Dl.ext {z:Nat} {W W':World} (hb:Below W.heap.size W W'):Dl z W W':=fun _ _ _ _ h=>h.below hb h.lt
def DlI (w0:World) (L:List En) (J:List KV→World→Prop) (l by_ Bd:Nat) (dc:List Value) (pre:List PrS) (W:World):Prop:=
 ∃ps:List KV,ps.map KV.id=pre.map (·.1.1)∧(∀q∈ps,q.ks=lookE L q.id)∧J ps W∧Bk W by_ 108 [.func (.yield l) #[] #[]]∧Bk W Bd 34 dc∧Below w0.heap.size w0 W
section
variable {w0 : World} {L : List En} {J : List KV → World → Prop} {l by_ Bd : Nat} {dc : List Value}
theorem A7e {B C:Nat} (hJ:OwnFrom C J) (hC:C≤B) (h0:w0.heap.size≤B):OwnFrom B (DlI w0 L J l by_ Bd dc):=by
 intro s X Y aA hs hg hr;obtain⟨ps,h1,h2,h3,h4,h5,h6⟩:=hs;have aB:∀r,aA=some r→∃o:Obj,X.heap[r]?=some o∧o.isCells=false:=fun r e=>(hr r e).2;exact ⟨ps,h1,h2,hJ ps X Y aA h3 hg (fun r e=>⟨Nat.le_trans hC (hr r e).1,(hr r e).2⟩),Y9 h4 hg aB,Y9 h5 hg aB,h6.grown hg h6.size (fun k e=>Nat.le_trans h0 (hr k e).1)⟩
theorem D0t {C:Nat} (hJ:OwnFrom C J) {pre:List PrS} {W W':World} (h:DlI w0 L J l by_ Bd dc pre W) (hb:Below W.heap.size W W'):DlI w0 L J l by_ Bd dc pre W':=by
 obtain⟨ps,h1,h2,h3,h4,h5,h6⟩:=h;exact ⟨ps,h1,h2,A7m hJ h3 hb,h4.below hb h4.lt,h5.below hb h5.lt,C0 h6 hb h6.size⟩
theorem A5w {ps:List KV} {pre:List PrS} (ok:OkE L) {t:Tr} (ht:IsTree t L) (h1:ps.map KV.id=pre.map (·.1.1)) (h2:∀q∈ps,q.ks=lookE L q.id) (hp:pre <+: t.prs):ps.map KV.en <+: L:=by
 have e1:(t.prs.map (·.1))=pairsE L:=by rw[Rl ht.ok,ht.prs]
 have e2:t.prs.map (fun x=>x.1.1)=L.map (·.1):=by have:=congrArg (List.map Prod.fst) e1;unfold pairsE at this;rw[List.map_map,List.map_map]at this;exact this
 have e3:ps.map KV.en=(ps.map KV.id).map fun x=>(x,lookE L x):=by rw[List.map_map];exact List.map_congr_left fun q hq=>by simp[KV.en,h2 q hq]
 have e4:(L.map (·.1)).map (fun x=>(x,lookE L x))=L:=by rw[List.map_map];refine (List.map_congr_left fun q hq=>?_).trans (List.map_id L);show (q.1,lookE L q.1)=q;rw[X2 ok.rise q hq]
 obtain⟨r,hr⟩:=hp;rw[e3,h1];refine ⟨(r.map fun x=>x.1.1).map (fun x=>(x,lookE L x)),?_⟩;rw[←List.map_append,←List.map_append,hr,e2,e4]
end
attribute [local go_sem ↓ high] Hk Qr
theorem A0u (w0:World) (e N:Nat) (ap:Option Addr) (mb:Option Nat) (L:List En) (t:Tr) (hD:DirIs w0 (.agg #[.int .i64 (e:Int),.pointer ap,.int .i64 0,.map mb]) e L N) (ht:IsTree t L) (hks:∀x,(lookE L x).length≤1000000)
 (n:Nat) (w:World) (Bd:Nat) (hw:Below w0.heap.size w0 w) (hBd:Bk w Bd 34 [.int .i64 (e:Int),.pointer ap,.int .i64 0,.map mb]) :
 D6v Fence.wide n Tryz.prog 48 #[.pointer (some ⟨Bd,0,none⟩)] D1q (KpD w0.heap.size) (fun pre x W=>Eu W w0.heap.size x.v x.ks∧(pre++[x]).map KV.en <+: L) (fun xs=>xs.map KV.en=L) (fun xs=>xs.map KV.en <+: L) L.length w:=by
 intro l J Jx W bO hW hJ aV hY h0;have D0:=hBd.below hW hBd.lt;have B0:Below w0.heap.size w0 W:=C0 hw hW hw.size;clear hBd hw hW;refine callsIn_of_wp_marks Tryz.func48 rfl trivial ?_ rfl;simp only[Tryz.ntmps48,List.size_toArray,List.length_cons,List.length_nil,Nat.reduceAdd,Nat.reduceSub,Array.replicate_succ,Array.replicate_zero,List.push_toArray,List.append_toArray,List.nil_append,List.cons_append];refine wpIn_wide.2 ?_;obtain⟨W1,aD⟩:∃x,x=W.alloc (Obj.cells #[.func (.yield l) #[] #[]] 108):=⟨_,rfl⟩;have b1:Below W.heap.size W W1:=by rw[aD];exact (Below.refl _ _).alloc (Nat.le_refl _) _
 have Y1:Bk W1 W.heap.size 108 [.func (.yield l) #[] #[]]:=by rw[aD];exact Bk.new W _ _
 have D1:=D0.below b1 D0.lt;have r1:E5 W1 ⟨Bd,1,none⟩ 2=some [.pointer ap,.int .i64 0]:=D1.row (o:=1) (n:=2) (by simp);rw[aD]at r1;go_wp2_with fail;rw[←aD];clear aD r1;refine (callsIn_wide.1 (C5b (.pointer ap) (.int .i64 0) W1 5)).mono ?_;rintro x W2 ⟨rfl,aL⟩;have T2:Bk W2 W1.heap.size 31 [.pointer ap,.int .i64 0]:=by rw[aL];exact Bk.new W1 _ _
 have b2:Below W1.heap.size W1 W2:=by rw[aL];exact (Below.refl _ _).alloc (Nat.le_refl _) _
 clear aL;have aE:=C0 b1 b2 b1.size;have Y2:=Y1.below b2 Y1.lt;have D2:=D1.below b2 D1.lt;have B2:Below w0.heap.size w0 W2:=C0 B0 aE B0.size;have J2:∃z,z≤W2.heap.size∧DlI w0 L (J z) l W.heap.size Bd [.int .i64 (e:Int),.pointer ap,.int .i64 0,.map mb] [] W2:=by
  obtain⟨z,hz,h⟩:=h0;exact ⟨z,Nat.le_trans hz aE.size,[],rfl,fun q h=>(by cases h),A7m (hJ z) h aE,Y2,D2,B2⟩
 have aM:=aE.size;clear Y1 D1 b1 b2 aE B0 D0 h0;go_wp2_with fail;have hn:=B2.size;have aN:At W2 w0.heap.size t (.pointer ap):=(A5g hD ht).below B2;have aO:=Rl ht.ok;have aW:t.prs.length=L.length:=by rw[←Al,←ht.prs,←aO,List.length_map]
 refine (wpIn_wide (n:=5)).1 ?_;refine B4c (F:=Fence.wide) (n:=5) rfl (by omega) (gf:=71) (lb:=#[.pointer (some ⟨W1.heap.size,0,none⟩)]) rfl trivial (enters_of Tryz.func71 (by kernel_rfl) rfl)
  (E2d (5-1) W1.heap.size w0.heap.size (.pointer ap) (.int .i64 0) t 0 P0 ht.ok W2 T2 hn aN) (fun h k=>belowK_t h k) (fun X o o' h1 h2 h3=>belowK_b hn X _ o o' (by omega) h1 h2 h3) (Below.refl _ _) (fun _=>rfl)
  (fun z=>DlI w0 L (J z) l W.heap.size Bd [.int .i64 (e:Int),.pointer ap,.int .i64 0,.map mb]) (fun c pre X=>c=.ret∧DlI w0 L Jx l W.heap.size Bd [.int .i64 (e:Int),.pointer ap,.int .i64 0,.map mb] pre X) (fun z=>A7e (hJ z) aM hn) (fun _ s X Y row hs hg hr=>⟨hs.1,A7e aV aM hn s X Y row hs.2 hg hr⟩)
  J2
  (fun z pre Z x a' X=>pre++[x] <+: t.prs∧DlI w0 L (J z) l W.heap.size Bd [.int .i64 (e:Int),.pointer ap,.int .i64 0,.map mb] pre X∧∃gk:Nat,Z.heap.size≤gk∧Bk X gk 23 (c8 x.1.1)∧a'={ tmps:=(.func (.yield l) #[] #[] :: .pointer (some ⟨Bd,0,none⟩) :: .pointer (some ⟨W.heap.size,0,none⟩) :: .pointer (some ⟨gk,0,none⟩) :: .pointer (some ⟨Bd,1,none⟩) :: .agg #[.pointer ap,.int .i64 0] :: .func (.func 71) #[] #[.pointer (some ⟨W1.heap.size,0,none⟩)]::A8 x.1.1::A8 x.1.2::undef::undef::undef::undef::undef::undef::undef::[]).toArray,defers:=[] })
  (fun z pre Z x a'=>by
   intro s X Y row hs hg hr;obtain⟨h0,h1,gk,h2,h3,h5⟩:=hs;exact ⟨h0,A7e (hJ z) aM hn pre X Y row h1 hg hr,gk,h2,Y9 h3 hg (fun r e=>(hr r e).2),h5⟩) ?aA ?aF ?aG ?aH
 case aA=>
  rintro lp z pre ⟨⟨k,x⟩,hx⟩ V K hI hz aP hK;have hk:=hx.1;have aQ:=hx.2;simp only at hk aQ;simp only[C7u];have bD:E8 (V.alloc (Obj.cells (c8 (z8 32)).toArray 23)) ⟨V.heap.size,0,none⟩ 32=true:=(Bk.new V _ _).can (by simp);gi_wp2
  obtain⟨V1,aR⟩:∃y,y=C9 (V.alloc (Obj.cells (c8 (z8 32)).toArray 23)) ⟨V.heap.size,0,none⟩ (c8 k):=⟨_,rfl⟩;rw[←aR];have aJ:Below V.heap.size V V1:=by rw[aR];exact C1 ((Below.refl _ _).alloc (Nat.le_refl _) _) (Nat.le_refl _) _
  have K1:Bk V1 V.heap.size 23 (c8 k):=by rw[aR];exact Bk.fresh V _ (by simp[hk])
  have bE:w0.heap.size≤V.heap.size:=by obtain⟨_,_,_,_,_,_,h⟩:=hI;exact h.size
  exact hK _ _ ((Cq aJ).from _) (aJ.mono bE) (Dl.ext aJ) ⟨aP,D0t (hJ z) hI aJ,V.heap.size,Nat.le_refl _,K1,rfl⟩
 case aF=>
  rintro lp z pre ⟨⟨k,x⟩,hx⟩ a' Z V hl bP _ bF ⟨aP,⟨ps,h1,h2,h3,Y3,D3,B3⟩,gk,bG,Kk,rfl⟩ bH;have hk:=hx.1;have aQ:=hx.2;simp only at hk aQ;have aX:z≤gk:=Nat.le_trans bF bG;have bI:=hD.up B3;have bJ:ps.length=pre.length:=by have:=congrArg List.length h1;simpa using this
  have S0:Below V.heap.size V V.drew:=(Below.refl _ _).drew;have Y4:=Y3.below S0 Y3.lt;have D4:=D3.below S0 D3.lt;have K4:=Kk.below S0 Kk.lt;have bK:=bI.up S0;have J4:=A7m (hJ z) h3 S0;have B4:=C0 B3 S0 B3.size;gi_wp2
  refine A6r (fun X=>Bk X W.heap.size 108 [.func (.yield l) #[] #[]]∧Bk X Bd 34 [.int .i64 (e:Int),.pointer ap,.int .i64 0,.map mb]∧Bk X gk 23 (c8 k)) (by kernel_rfl) ?_;refine A8f (Kc lp) (by kernel_rfl) (A:=?bQ) [0,1,2,3] (by kernel_rfl) (by kernel_rfl) rfl (by kernel_rfl) (by kernel_rfl) ⟨Y4,D4,K4⟩ (h:=fun X hX=>?bL) (hr:=?bR);case bL=>
   have f1:X.cell? ⟨W.heap.size,0,none⟩=some (.func (.yield l) #[] #[]):=hX.1.at_ rfl;have f2:E5 X ⟨Bd,0,none⟩ 4=some [.int .i64 (e:Int),.pointer ap,.int .i64 0,.map mb]:=hX.2.1.rows;have f3:E5 X ⟨gk,0,none⟩ 32=some (c8 k):=hX.2.2.row8 hk;simp only[pick,List.getElem?_cons_zero,List.getElem?_cons_succ];repeat (go_big_quiet_step (fail))
   refine wpQuiet_nil ?_;rfl
  refine Mm (Kc lp) 4 (by kernel_rfl) (by rfl) (by kernel_rfl) (fun Q' hQ'=>?_);dsimp only[E4];have aB:=Lib.hid hQ';clear hQ';gi_wp2
  refine ⟨trivial,?_⟩;refine (CallsIn.inRound lp (callsIn_wide.2 (Og bK k hk (hks k)))).mono ?_;rintro x1 V5 ⟨u,rfl,ho,b5⟩;have Y5:=Y4.below b5 Y4.lt;have D5:=D4.below b5 D4.lt;have K5:=K4.below b5 K4.lt;have J5:=A7m (hJ z) J4 b5;have B5:=C0 B4 b5 B4.size;have aK:=C0 S0 b5 S0.size;have bM:z≤V5.heap.size:=Nat.le_trans aX (Nat.le_of_lt K5.lt);have q1:(ps++[(⟨k,lookE L k,u,hk⟩:KV)]).map KV.id=(pre++[(⟨(k,x),hx⟩:PrS)]).map (·.1.1):=by rw[List.map_append,List.map_append,h1];rfl
  have q2:∀q∈ps++[(⟨k,lookE L k,u,hk⟩:KV)],q.ks=lookE L q.id:=by
   intro q hq;rcases List.mem_append.1 hq with hq | hq
   ·exact h2 q hq
   ·simp at hq;subst hq;rfl
  obtain⟨fn,tmps,aC,aS,hy,hR⟩:=Rx (m:=n-1) rfl 2 (hY z ps ⟨k,lookE L k,u,hk⟩ V5 J5 bM (by rw[bJ,←aW];exact bH) ⟨ho.less B4.size,A5w hD.okE ht q1 q2 aP⟩);dsimp only[D1q]at hy;gi_wp2
  refine aB.out _ _ ⟨Y5,D5,K5⟩ ?_;clear aB;refine Mm (Kc lp) 5 (by kernel_rfl) (by rfl) (by kernel_rfl) (fun Q' hQ'=>?_);dsimp only[E4];have aB:=Lib.hid hQ';clear hQ';gi_wp2
  refine (show RoundIn (Fence.wide.inRound lp) 2 _ l fn tmps aC aS V5 _ from hR).mono ?_;rintro e6 V6 ⟨h6,⟨aY,aZ,bB⟩,bC⟩;have Y6:=bB _ _ _ (.inl rfl) Y5;have D6:=bB _ _ _ (.inr rfl) D5;have K6:=bC _ _ _ aX K5;have p1:KeepsFrom W2.heap.size V V6:=⟨Nat.le_trans aK.size aZ.size,fun r o hr ho hc=>aZ.same r o (by omega) ((Cq aK).same r o ho hc) hc⟩;have p2:Below w0.heap.size V V6:=(aK.mono B3.size).trans aY;have p3:Dl z V V6:=(Dl.ext aK).trans bC;have p4:Below w0.heap.size w0 V6:=B5.trans aY;clear hY hR hy J5 J4 h3 ho;rcases h6 with ⟨rfl,z',hz',hJ6⟩ | ⟨rfl,hJ6⟩
  ·gi_wp2
   refine aB.out _ _ ⟨Y6,D6,K6⟩ ?_;clear aB;refine Mm (Kc lp) 6 (by kernel_rfl) (by rfl) (by kernel_rfl) (fun Q' hQ'=>?_);dsimp only[E4];gi_wp2
   refine hQ' _ _ ⟨Y6,D6,K6⟩ ?_;refine A2e (by kernel_rfl) ?_;gi_wp2
   exact ⟨p1,p2,p3,z',hz',_,q1,q2,hJ6,Y6,D6,p4⟩
  ·gi_wp2
   refine aB.out _ _ ⟨Y6,D6,K6⟩ ?_;clear aB;refine Mm (Kc lp) 6 (by kernel_rfl) (by rfl) (by kernel_rfl) (fun Q' hQ'=>?_);dsimp only[E4];gi_wp2
   refine hQ' _ _ ⟨Y6,D6,K6⟩ ?_;refine A2e (by kernel_rfl) ?_;gi_wp2
   exact ⟨p1,p2,p3,rfl,_,q1,q2,hJ6,Y6,D6,p4⟩
 case aG=>
  rintro D z ys V bN rfl ⟨ps,h1,h2,h3,Y3,D3,B3⟩ aI;have aT:ps.map KV.en=L:=(A5w hD.okE ht h1 h2 (List.prefix_refl _)).eq_of_length (by
   have:=congrArg List.length h1;simp only[List.length_map]at this ⊢;rw[this,aW])
  dsimp only;go_wp2_with fail;refine ⟨by simp,.inl ⟨_,_,rfl,run_takeDeferred aI,?_⟩⟩;exact ⟨.tuple #[],by simp[results,Tryz.f48],⟨_,rfl⟩,.inl ⟨ps,z,aT,(hJ z).putObj _ h3 (by omega) aI rfl⟩⟩
 case aH=>
  rintro D cc pre V bN aU ⟨rfl,ps,h1,h2,h3,Y3,D3,B3⟩ aI;have aT:ps.map KV.en <+: L:=A5w hD.okE ht h1 h2 aU;dsimp only;gi_wp2
  refine ⟨by simp,.inl ⟨_,_,rfl,run_takeDeferred aI,?_⟩⟩;exact ⟨.tuple #[],by simp[results,Tryz.f48],⟨_,rfl⟩,.inr ⟨ps,aT,aV.putObj _ h3 (by omega) aI rfl⟩⟩
end
section
attribute [local go_sem] Oper.semAt_some
theorem B3j {W W':World} (hb:Below W.heap.size W W'):KT W W':=fun _ _ _ _ h=>h.below hb h.lt
theorem KT.trans {A B C:World} (h:KT A B) (k:KT B C):KT A C:=fun i T cs ht hb=>k i T cs ht (h i T cs ht hb)
theorem KT.putObj {W:World} {r:Nat} {o:Obj} (o':Obj) (ho:W.heap[r]?=some o) (hc:o.isCells=false):KT W (W.putObj r o'):=fun k T cs _ hb=>by
 unfold Bk at hb ⊢;rw[World.putObj_heap_other (fun e=>by subst e;rw[hb]at ho;injection ho with ho;subst ho;cases hc)];exact hb
theorem D3q {n0 l:Nat} {A B C:World} (h:KpD n0 l A B) (k:KpD n0 l B C):KpD n0 l A C:=⟨h.1.trans k.1,⟨Nat.le_trans h.2.1.size k.2.1.size,fun r o hr ho hc=>k.2.1.same r o hr (h.2.1.same r o hr ho hc) hc⟩,h.2.2.trans k.2.2⟩
theorem D4m {n0:Nat} {w:World} (hn:n0≤w.heap.size) (W:World) (o o':Obj) (h1:W.heap[w.heap.size+1]?=some o) (h2:o.isCells=false) (h3:o.isWalk=false):KpD n0 (w.heap.size+1) W (W.putObj (w.heap.size+1) o'):=
 ⟨belowK_b hn W _ o o' (by omega) h1 h2 h3,⟨by simp,fun r o2 hr ho hc=>(World.putObj_heap_other (by omega)).trans ho⟩,KT.putObj o' h1 h2⟩
attribute [local go_sem ↓ high] Hk
end
section
attribute [local go_sem] Oper.semAt_some
theorem B8z {i:Nat} (h:i<1000000):wrap64 ((i:Int)+1)=(i:Int)+1:=by unfold wrap64;omega
theorem Xd {A B:World} {row:Option Nat} {base sz m:Nat} {T:TypeId} {v:Value} {xs:List Value} (h:A.ownsRow base T sz v m xs) (hg:A.grownBy B row) (hr:∀r,row=some r→∃o:Obj,A.heap[r]?=some o∧o.isCells=false):B.ownsRow base T sz v m xs:=by
 refine World.ownsRow.kept h hg ?_;cases hv:v.ownBlock with
 | none=>exact .inl rfl
 | some k=>
  refine .inr fun e=>?_;obtain⟨o,ho,hc⟩:=hr k e.symm;rcases h.2 with ⟨rfl,_⟩ | ⟨g',cap,cur,rfl,_,hh,_⟩
  ·cases hv
  ·injection hv with hv;subst hv;rw[hh]at ho;injection ho with ho;subst ho;cases hc
attribute [local go_sem ↓ high] Hk
end
end Go.Proofs.YtlegpkdighoflaaGreat
