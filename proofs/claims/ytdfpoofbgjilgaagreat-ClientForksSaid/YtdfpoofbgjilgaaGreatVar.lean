/- A part of the proof of ClientForks. -/
import Derived.Test.YtdfpoofbgjilgaaGreatVaq
set_option linter.unusedVariables false
set_option linter.unusedSimpArgs false
set_option maxRecDepth 100000
set_option maxHeartbeats 40000000
namespace Go.Proofs.YtdfpoofbgjilgaaGreat
open Go Go.RowKit Sh
section
def Ig:Code→List Code
 | .seq x y=>Ig x++Ig y
 | c=>[c]
def wpL (P:Program) (Q:Exit→Act→World→Prop):List Code→Act→World→Prop
 | [],a,w=>Q .normal a w
 | c::l,a,w=>c.wp P (Exit.then (wpL P Q l) Q) a w
section
variable {P : Program} {Q Q' : Exit → Act → World → Prop} {K : Act → World → Prop}
theorem A4s {K K':Act→World→Prop} (hk:∀a w,K a w→K' a w) (hq:∀e a w,Q e a w→Q' e a w):∀e a w,Exit.then K Q e a w→Exit.then K' Q' e a w:=by
 intro e a w h;cases e with
 | normal=>exact hk a w h
 | _=>exact hq _ a w h
theorem B1v (hq:∀e a w,Q e a w→Q' e a w):∀(l:List Code) (a:Act) (w:World),wpL P Q l a w→wpL P Q' l a w
 | [],a,w,h=>hq _ _ _ h
 | c::l,a,w,h=>wp_mono h (A4s (B1v hq l) hq)
theorem Tu:∀(l m:List Code) (a:Act) (w:World),wpL P (Exit.then (wpL P Q m) Q) l a w↔wpL P Q (l++m) a w
 | [],m,a,w=>Iff.rfl
 | c::l,m,a,w=>by
  constructor
  ·intro h;refine wp_mono h fun e a w h=>?_;cases e with
   | normal=>exact (Tu l m a w).1 h
   | _=>exact h
  ·intro h;refine wp_mono h fun e a w h=>?_;cases e with
   | normal=>exact (Tu l m a w).2 h
   | _=>exact h
theorem Tx:∀ {c:Code} {Q:Exit→Act→World→Prop} {a:Act} {w:World},wpL P Q (Ig c) a w→c.wp P Q a w:=by
 intro c;have aA:∀(c:Code) (Q:Exit→Act→World→Prop) (a:Act) (w:World),wpL P Q [c] a w→c.wp P Q a w:=fun c Q a w h=>wp_mono h fun e a w h=>by
  cases e with
  | _=>exact h
 induction c with
 | seq x y ihx ihy=>
  intro Q a w h;refine wp_seq (ihx (B1v (A4s (fun a w h=>ihy h) fun _ _ _ h=>h) _ _ _ ((Tu _ _ _ _).2 h)))
 | _=>intro Q a w h;exact aA _ _ _ _ h
end
def C6a (P:Program) (g:Cfg) (ρ:List Av) (n:Nat):List Code→St→Nat→Option Out
 | [],s,na=>some (.nrm,s,na,[])
 | c::l,s,na=>match A2z P g ρ n c s na with
  | some (.nrm,s1,n1,q1)=>match C6a P g ρ n l s1 n1 with
   | some (k,s2,n2,q2)=>some (k,s2,n2,q1++q2)
   | none=>none
  | r=>r
def Sg.lt (m:Nat):Sg→Bool
 | .m n _=>decide (n<m)
 | _=>true
def SV.lt (m:Nat):SV→Bool
 | .v _ l=>l.all (·.lt m)
 | .tup l=>l.all fun x=>x.2.all (·.lt m)
 | .any=>true
def St.lt (s:St) (m:Nat):Bool:=s.σ.all (·.lt m)&&s.h.all fun b=>match b with
 | some x=>x.2.all (·.lt m)
 | none=>true
theorem B4x {ρ r:List Av} {μ:Nat→Nm} {s:Sg} (h:s.lt ρ.length=true):s.cells (ρ++r) μ=s.cells ρ μ:=by
 cases s with
 | m n k=>show A6b (ρ++r) n k=A6b ρ n k;unfold A6b;rw[List.getElem?_append_left (of_decide_eq_true h)]
 | _=>rfl
theorem Iq {ρ r:List Av} {μ:Nat→Nm}:∀ {l:List Sg},l.all (·.lt ρ.length)=true→cellsL (ρ++r) μ l=cellsL ρ μ l
 | [],_=>rfl
 | s::l,h=>by
  rw[List.all_cons,Bool.and_eq_true]at h;rw[M2,M2,B4x h.1,Iq h.2]
theorem D0k {ρ r:List Av} {μ:Nat→Nm} {x:SV} (h:x.lt ρ.length=true):x.val (ρ++r) μ=x.val ρ μ:=by
 cases x with
 | v a l=>show cv (ρ++r) μ a l=cv ρ μ a l;unfold cv;rw[Iq h]
 | tup l=>
  have:(l.map fun x=>cv (ρ++r) μ x.1 x.2)=l.map fun x=>cv ρ μ x.1 x.2:=List.map_congr_left fun y hy=>by
   have:=List.all_eq_true.1 h y hy;unfold cv;rw[Iq this]
  exact congrArg (fun l=>Value.tuple l.toArray) this
 | any=>rfl
def C9h (like s:St) (ρ:List Av) (μ:Nat→Nm):List (Option Value):=(List.range like.σ.length).map fun t=>match like.σ[t]?,s.σ[t]? with
 | some x,some y=>if x.known=true then if y.known=true then some (y.val ρ μ) else none else some undef
 | _,_=>none
def B1q (like s:St) (ρ:List Av) (μ:Nat→Nm):List (Option (TypeId×List Value)):=(List.range like.h.length).map fun b=>match like.blk b with
 | some _=>(s.blk b).map fun x=>(x.1,cellsL ρ μ x.2)
 | none=>none
def A2s (s0 s1 s2:St):Bool:=s2.σ.length==s1.σ.length&&(s2.dy.isEmpty&&(decide (s0.h.length≤s2.h.length)&&(decide (s2.h.length≤s1.h.length)&&(s2.σ.all (·.okn fun b=>decide (b<s2.h.length))&&(s2.h.all (fun b=>match b with
 | some x=>x.2.all (·.okn fun b=>decide (b<s2.h.length))
 | none=>true)&&(List.range s2.σ.length).all fun t=>match s2.σ[t]?,s1.σ[t]? with
 | some x,some y=>!x.known||y.known
 | _,_=>false)))))
theorem C6e {s0 s1 s2:St} (h:A2s s0 s1 s2=true):s2.dy.isEmpty=true:=by
 unfold A2s at h;simp only[Bool.and_eq_true]at h;exact h.2.1
section
variable {P : Program} {g : Cfg} {S : World → Prop} {Φ : Fcts} {ρ ρ' ρ1 ρ2 : List Av} {s s' s1 s2 : St}
theorem Rel.more {μ:Nat→Nm} {a:Act} {w:World} (hR:Rel ρ Φ S s μ a w) (r:List Av) (h:s.lt ρ.length=true):Rel (ρ++r) Φ S s μ a w:=by
 unfold St.lt at h;rw[Bool.and_eq_true]at h;refine { hR with tm:=fun t x hx hk=>(hR.tm t x hx hk).trans (D0k (List.all_eq_true.1 h.1 x (List.mem_of_getElem? hx))).symm,bl:=fun b T cs hb=>?_ };have h1:s.h[b]?=some (some (T,cs)):=by
  unfold St.blk at hb;cases h2:s.h[b]? with
  | none=>rw[h2]at hb;cases hb
  | some y=>rw[h2]at hb;simp at hb;rw[hb]
 have h2:=List.all_eq_true.1 h.2 _ (List.mem_of_getElem? h1);rw[Iq h2];exact hR.bl b T cs hb
theorem Rel.seen {s0:St} {μ:Nat→Nm} {a:Act} {w:World} (hR:Rel ρ1 Φ S s1 μ a w) (hb:A2s s0 s1 s2=true) (ht:C9h s2 s1 ρ1 μ=C9h s2 s2 ρ2 μ) (hh:B1q s2 s1 ρ1 μ=B1q s2 s2 ρ2 μ):Rel ρ2 Φ S s2 μ a w:=by
 unfold A2s at hb;simp only[Bool.and_eq_true,beq_iff_eq,decide_eq_true_eq]at hb;obtain⟨b1,b2,b3,b4,b5,b6,b7⟩:=hb;have blk:∀b T cs,s2.blk b=some (T,cs)→∃aA,s1.blk b=some (T,aA)∧cellsL ρ2 μ cs=cellsL ρ1 μ aA:=by
  intro b T cs h;have aB:=Vj (s:=s2) (b:=b) (by rw[h];rfl);have h1:=congrArg (fun l=>l[b]?) hh;simp only[B1q,List.getElem?_map,List.getElem?_range aB,Option.map_some,h,Option.some.injEq]at h1;cases h2:s1.blk b with
  | none=>rw[h2]at h1;cases h1
  | some x=>
   rw[h2]at h1;simp only[Option.map_some,Option.some.injEq,Prod.mk.injEq]at h1;obtain⟨T',aA⟩:=x;obtain⟨e1,e2⟩:=h1;dsimp only at e1 e2;subst e1;exact ⟨aA,rfl,e2.symm⟩
 have aC:∀b,(s2.blk b).isSome=true→(s1.blk b).isSome=true:=fun b h=>by
  obtain⟨⟨T,cs⟩,h1⟩:=Option.isSome_iff_exists.1 h;obtain⟨aA,h2,_⟩:=blk b T cs h1;rw[h2];rfl
 refine ⟨hR.size.trans b1.symm,hR.df,fun t x hx hk=>?_,fun b T cs h=>?_,fun b b' h h'=>hR.inj b b' (aC b h) (aC b' h'),fun t x hx=>List.all_eq_true.1 b5 x (List.mem_of_getElem? hx),fun b T cs h=>?_,fun n hn=>?_,fun n hn=>?_,fun W hW=>hR.sk W ⟨hW.os,hW.tape,hW.output,hW.size,fun k hk h=>hW.block k hk fun b hb=>h b (aC b hb)⟩⟩
 ·have aB:=(List.getElem?_eq_some_iff.1 hx).1;have h1:=congrArg (fun l=>l[t]?) ht;simp only[C9h,List.getElem?_map,List.getElem?_range aB,Option.map_some,hx,Option.some.injEq]at h1;have h2:t<s1.σ.length:=by omega
  obtain⟨y,hy⟩:∃y,s1.σ[t]?=some y:=⟨_,List.getElem?_eq_getElem h2⟩;rw[hy]at h1;simp only[hk,if_true]at h1;by_cases hyk:y.known=true
  ·rw[if_pos hyk]at h1;injection h1 with h1;rw[hR.tm t y hy hyk];exact h1
  ·rw[if_neg hyk]at h1;cases h1
 ·obtain⟨aA,h1,h2⟩:=blk b T cs h;rw[h2];exact hR.bl b T aA h1
 ·have hh:s2.h[b]?=some (some (T,cs)):=by
   unfold St.blk at h;cases h2:s2.h[b]? with
   | none=>rw[h2]at h;cases h
   | some y=>rw[h2]at h;simp at h;rw[h]
  exact List.all_eq_true.1 b6 _ (List.mem_of_getElem? hh)
 ·rw[List.isEmpty_iff.1 b2]at hn;cases hn
 ·rw[List.isEmpty_iff.1 b2]at hn;cases hn
theorem Goes.seen {s0:St} {μ μ':Nat→Nm} {w w':World} (h:Goes s0 μ w s1 μ' w') (hb:A2s s0 s1 s2=true) (hh:B1q s2 s1 ρ1 μ'=B1q s2 s2 ρ2 μ'):Goes s0 μ w s2 μ' w':=by
 have aA:∀b,(s2.blk b).isSome=true→(s1.blk b).isSome=true:=fun b h=>by
  have aB:=Vj h;obtain⟨x,h3⟩:=Option.isSome_iff_exists.1 h;have h1:=congrArg (fun l=>l[b]?) hh;simp only[B1q,List.getElem?_map,List.getElem?_range aB,Option.map_some,h3,Option.some.injEq]at h1;cases h2:s1.blk b with
  | none=>rw[h2]at h1;cases h1
  | some x=>rfl
 unfold A2s at hb;simp only[Bool.and_eq_true,beq_iff_eq,decide_eq_true_eq]at hb;exact ⟨h.kp,hb.2.2.1,h.old,fun b h1 h2=>h.new b (aA b h1) h2,fun b h1 h2=>h.ini b (aA b h1) h2⟩
theorem Rel.free {Φ':Fcts} {μ:Nat→Nm} {a:Act} {w:World} (hR:Rel ρ Φ S s μ a w) (h:s.dy.isEmpty=true):Rel ρ Φ' S s μ a w:=
 { hR with fx:=fun n hn=>(by rw[List.isEmpty_iff.1 h]at hn;cases hn),dl:=fun n hn=>(by rw[List.isEmpty_iff.1 h]at hn;cases hn) }
def Go (P:Program) (S:World→Prop) (ρ:List Av) (s:St) (l:List Code) (ρ':List Av) (s':St) (k:XK):Prop:=
 ∀(μ:Nat→Nm) (a:Act) (w:World) (Q:Exit→Act→World→Prop),Rel ρ noF S s μ a w→
  (∀μ' a' w',Rel ρ' noF S s' μ' a' w'→Goes s μ w s' μ' w'→Q k.ex a' w')→wpL P Q l a w
theorem Go.app {l m:List Code} {k:XK} (h1:Go P S ρ s l ρ1 s1 .nrm) (h2:Go P S ρ1 s1 m ρ2 s2 k):Go P S ρ s (l++m) ρ2 s2 k:=fun μ a w Q hR hQ=>
 (Tu _ _ _ _).1 (h1 μ a w _ hR fun μ' a' w' hR' hG=>h2 μ' a' w' Q hR' fun μ2 a2 w2 hR2 hG2=>hQ _ _ _ hR2 (hG.trans hG2))
theorem A4q {ρs:Nat→List Av} {b:Code} {k:XK} (hk:k≠.nrm) {Q:Exit→Act→World→Prop}:∀(n i:Nat),(∀j,i≤j→j<i+n→Go P S (ρs j) s (Ig b) (ρs (j+1)) s .nrm)→Go P S (ρs (i+n)) s (Ig b) ρ' s' k→
 ∀(μ:Nat→Nm) (a:Act) (w:World),Rel (ρs i) noF S s μ a w→(∀μ' a' w',Rel ρ' noF S s' μ' a' w'→Goes s μ w s' μ' w'→Q k.ex a' w')→Code.rounds P b Q (n+1) a w
 | 0,i,_,he,μ,a,w,hR,hQ=>by
  rw[rounds_succ];refine Tx (he μ a w _ hR fun μ' a' w' hR' hG=>?_);have:=hQ μ' a' w' hR' hG;cases k with
  | nrm=>exact absurd rfl hk
  | ext id=>exact this
  | ret=>exact this
 | n+1,i,hr,he,μ,a,w,hR,hQ=>by
  rw[rounds_succ];refine Tx (hr i (Nat.le_refl _) (by omega) μ a w _ hR fun μ' a' w' hR' hG=>?_);show Code.rounds P b Q (n+1) a' w';exact A4q hk n (i+1) (fun j h1 h2=>hr j (by omega) (by omega)) (by rw[show i+1+n=i+(n+1) by omega];exact he) μ' a' w' hR' fun μ2 a2 w2 hR2 hG2=>hQ μ2 a2 w2 hR2 (hG.trans hG2)
theorem Go.loop {id n:Nat} {b:Code} (ρs:Nat→List Av) (hr:∀i,i<n→Go P S (ρs i) s (Ig b) (ρs (i+1)) s .nrm) (he:Go P S (ρs n) s (Ig b) ρ' s' (.ext id)):Go P S (ρs 0) s [.block id (.loop b)] ρ' s' .nrm:=by
 intro μ a w Q hR hQ;refine wp_block (wp_loop_rounds (n+1) (A4q (ρs:=ρs) (k:=.ext id) (fun e=>by cases e) n 0 (fun j _ h=>hr j (by omega)) (by rw[Nat.zero_add];exact he) μ a w hR fun μ' a' w' hR' hG=>?_));show Exit.inBlock id _ (.exit id) a' w';unfold Exit.inBlock;simp only[if_true];exact hQ μ' a' w' hR' hG
theorem Qx (hm:P.follows .mixedOrders=true) (n:Nat):∀(l:List Code) (s:St) (na:Nat) (o:Out),C6a P g ρ n l s na=some o→(∀q∈o.2.2.2,q.Ok P ρ g.f S)→∀(μ:Nat→Nm) (a:Act) (w:World) (Q:Exit→Act→World→Prop),Rel ρ g.f S s μ a w→(∀μ' a' w',Rel ρ g.f S o.2.1 μ' a' w'→Goes s μ w o.2.1 μ' w'→Q o.1.ex a' w')→wpL P Q l a w
 | [],s,na,o,h,hq=>by cases h;exact fun μ a w Q hR hQ=>hQ μ a w hR (Goes.refl _ _ _)
 | c::l,s,na,o,h,hq=>by
  intro μ a w Q hR hQ;simp only[C6a]at h;split at h
  ·rename_i s1 n1 q1 h1
   split at h
   ·rename_i k s2 n2 q2 h2
    cases h;refine Aa hm n c s na _ h1 (fun q hmq=>hq q (by simp[hmq])) μ a w _ hR fun μ' a' w' hR' hG=>?_;exact Qx hm n l s1 n1 _ h2 (fun q hmq=>hq q (by simp[hmq])) μ' a' w' Q hR' fun μ2 a2 w2 hR2 hG2=>hQ μ2 a2 w2 hR2 (hG.trans hG2)
   ·cases h
  ·rename_i hne
   obtain⟨k,s1,n1,q1⟩:=o;refine Aa hm n c s na _ h hq μ a w _ hR fun μ' a' w' hR' hG=>?_;cases k with
   | nrm=>exact absurd h (hne s1 n1 q1)
   | ext id=>exact hQ μ' a' w' hR' hG
   | ret=>exact hQ μ' a' w' hR' hG
def goE (P:Program) (g:Cfg) (fuel:Nat) (ρ r:List Av) (l:List Code) (s s2:St):Option (XK×List Eqn×((Nat→Nm)→List (Option Value))×((Nat→Nm)→List (Option (TypeId×List Value)))×Bool):=
 match C6a P g (ρ++r) fuel l s ρ.length with
 | some (k,s1,_,qs)=>some (k,qs.map (Rq.eqn (ρ++r) g.f),C9h s2 s1 (ρ++r),B1q s2 s1 (ρ++r),s.lt ρ.length&&(s.dy.isEmpty&&A2s s s1 s2))
 | none=>none
theorem Go.run {l:List Code} {k:XK} (fuel:Nat) (ds:List (DC P g.f S)) (hm:P.follows .mixedOrders=true)
 (h:goE P g fuel ρ (ds.flatMap (·.res)) l s s2=some (k,ds.map (·.e),C9h s2 s2 ρ2,B1q s2 s2 ρ2,true)):Go P S ρ s l ρ2 s2 k:=by
 intro μ a w Q hR hQ;unfold goE at h;split at h
 ·rename_i k' s1 na' qs hrun
  simp only[Option.some.injEq,Prod.mk.injEq,Bool.and_eq_true]at h;obtain⟨rfl,he,ht,hb,hl,hd,hs⟩:=h;refine Qx (ρ:=ρ++ds.flatMap (·.res)) hm fuel l s ρ.length _ hrun (fun q hq=>?_) μ a w Q ((hR.free hd).more _ hl) fun μ' a' w' hR' hG=>?_
  ·have h1:q.eqn (ρ++ds.flatMap (·.res)) g.f∈ds.map (·.e):=by rw[←he];exact List.mem_map_of_mem hq
   obtain⟨d,_,h2⟩:=List.mem_map.1 h1;unfold Rq.Ok;rw[←h2];exact d.ok
  ·exact hQ μ' a' w' ((hR'.seen hs (congrFun ht μ') (congrFun hb μ')).free (C6e hs)) (hG.seen hs (congrFun hb μ'))
 ·cases h
def D6x (n m:Nat) (σ:List (Nat×SV)) (h:List (Nat×TypeId×List Sg)):St:=
 ⟨(List.range n).map fun t=>((σ.find? fun x=>x.1==t).map (·.2)).getD .any,(List.range m).map fun b=>(h.find? fun x=>x.1==b).map (·.2),[]⟩
def B4h (P:Program) (g:Cfg) (fn:Func) (ρ:List Av):Option (Array Value×St×Nat):=(Hc P g 0 fn.params.toList).map fun x=>((x.1.map fun x=>cv ρ nm0 x.1 x.2).toArray,Lk (x.1.map fun x=>.v x.1 x.2) fn.ntmps,x.2)
def B4r (P:Program) (g:Cfg) (fn:Func) (ρ:List Av):St:=((B4h P g fn ρ).map (·.2.1)).getD ⟨[],[],[]⟩
def Eo:List Code→Option (List Code×Nat×Code×List Code)
 | []=>none
 | .block id (.loop b)::l=>some ([],id,b,l)
 | c::l=>(Eo l).map fun x=>(c::x.1,x.2)
def Wy (fn:Func):List Code:=match fn.body with
 | some c=>Ig c
 | none=>[]
def Zn (fn:Func):List Code×Nat×Code×List Code:=(Eo (Wy fn)).getD ([],0,.skip,[])
theorem A5u:∀ {l:List Code} {x:List Code×Nat×Code×List Code},Eo l=some x→l=x.1++([.block x.2.1 (.loop x.2.2.1)]++x.2.2.2):=by
 intro l;induction l with
 | nil=>intro x h;cases h
 | cons c l ih=>
  intro x h;unfold Eo at h;split at h
  ·rename_i h1;cases h1
  ·rename_i h1;cases h1;cases h;rfl
  ·rename_i h1
   cases h1;cases h2:Eo l with
   | none=>rw[h2]at h;cases h
   | some y=>rw[h2]at h;cases h;exact congrArg (c :: ·) (ih h2)
def Od:List Code→Option (List Code×Nat×Code×List Code)
 | []=>none
 | .block id b::l=>some ([],id,b,l)
 | c::l=>(Od l).map fun x=>(c::x.1,x.2)
def A1t (l:List Code):List Code×Nat×Code×List Code:=(Od l).getD ([],0,.skip,[])
def Rk (l:List Code):List Code×Nat×Code×List Code:=(Eo l).getD ([],0,.skip,[])
theorem C1t:∀ {l:List Code} {x:List Code×Nat×Code×List Code},Od l=some x→l=x.1++([.block x.2.1 x.2.2.1]++x.2.2.2):=by
 intro l;induction l with
 | nil=>intro x h;cases h
 | cons c l ih=>
  intro x h;unfold Od at h;split at h
  ·rename_i h1;cases h1
  ·rename_i h1;cases h1;cases h;rfl
  ·rename_i h1
   cases h1;cases h2:Od l with
   | none=>rw[h2]at h;cases h
   | some y=>rw[h2]at h;cases h;exact congrArg (c :: ·) (ih h2)
theorem Go.blk {l:List Code} {k:XK} (hs:(Od l).isSome=true) (h1:Go P S ρ s (A1t l).1 ρ1 s1 .nrm) (h2:Go P S ρ1 s1 (Ig (A1t l).2.2.1) ρ2 s2 .nrm) (h3:Go P S ρ2 s2 (A1t l).2.2.2 ρ' s' k):Go P S ρ s l ρ' s' k:=by
 have e:Od l=some (A1t l):=by
  unfold A1t;cases h:Od l with
  | none=>rw[h]at hs;cases hs
  | some x=>rfl
 rw[C1t e];refine h1.app (Go.app (ρ1:=ρ2) (s1:=s2) (fun μ a w Q hR hQ=>?_) h3);exact wp_block (Tx (h2 μ a w _ hR fun μ' a' w' hR' hG=>hQ μ' a' w' hR' hG))
theorem Go.lp {l:List Code} {k:XK} {n:Nat} (ρs:Nat→List Av) (hs:(Eo l).isSome=true) (h1:Go P S ρ s (Rk l).1 (ρs 0) s1 .nrm) (hr:∀i,i<n→Go P S (ρs i) s1 (Ig (Rk l).2.2.1) (ρs (i+1)) s1 .nrm) (hx:Go P S (ρs n) s1 (Ig (Rk l).2.2.1) ρ2 s2 (.ext (Rk l).2.1)) (h3:Go P S ρ2 s2 (Rk l).2.2.2 ρ' s' k):Go P S ρ s l ρ' s' k:=by
 have e:Eo l=some (Rk l):=by
  unfold Rk;cases h:Eo l with
  | none=>rw[h]at hs;cases hs
  | some x=>rfl
 rw[A5u e];exact h1.app (Go.app (Go.loop ρs hr hx) h3)
def E5h (P:Program) (g:Cfg) (fuel:Nat) (fn:Func) (ρ r:List Av) (l:List Code) (s:St):Option (List Eqn×((Nat→Nm)→Value)×Bool):=
 match C6a P g (ρ++r) fuel l s ρ.length with
 | some (k,s1,_,qs)=>(C1s P s1 fn.results.toList).map fun x=>(qs.map (Rq.eqn (ρ++r) g.f),(fun μ=>x.val (ρ++r) μ),(match k with
  | .ext _=>false
  | _=>true)&&(s.lt ρ.length&&s.dy.isEmpty))
 | none=>none
theorem A8e {f:Nat} {fn:Func} {args:Array Value} {v:Value} {ρ0:List Av} {w:World} (fuel n:Nat) (s:St) (ρs:Nat→List Av) (de:List (DC P g.f (fun W=>Below w.heap.size w W))) (hm:P.follows .mixedOrders=true) (hf:P.funcs[f]?=some fn)
 (h0:(B4h P g fn ρ0).map (fun x=>(x.1,(Eo (Wy fn)).isSome))=some (args,true))
 (hp:Go P (fun W=>Below w.heap.size w W) ρ0 (B4r P g fn ρ0) (Zn fn).1 (ρs 0) s .nrm)
 (hr:∀i,i<n→Go P (fun W=>Below w.heap.size w W) (ρs i) s (Ig (Zn fn).2.2.1) (ρs (i+1)) s .nrm)
 (hx:Go P (fun W=>Below w.heap.size w W) (ρs n) s (Ig (Zn fn).2.2.1) (ρs n) s (.ext (Zn fn).2.1))
 (he:E5h P g fuel fn (ρs n) (de.flatMap (·.res)) (Zn fn).2.2.2 s=some (de.map (·.e),fun _=>v,true)):Calls P f args w fun e w'=>e=.returned v∧Below w.heap.size w w':=by
 have aE:∃ps na,Hc P g 0 fn.params.toList=some (ps,na)∧(ps.map fun x=>cv ρ0 nm0 x.1 x.2).toArray=args∧(Eo (Wy fn)).isSome=true∧B4r P g fn ρ0=Lk (ps.map fun x=>.v x.1 x.2) fn.ntmps:=by
  unfold B4r;unfold B4h at h0 ⊢;cases h:Hc P g 0 fn.params.toList with
  | none=>rw[h]at h0;cases h0
  | some x=>rw[h]at h0;simp only[Option.map_some,Option.some.injEq,Prod.mk.injEq]at h0;exact ⟨x.1,x.2,rfl,h0.1,h0.2,rfl⟩
 obtain⟨ps,na,aF,ha,hs,aG⟩:=aE;rw[aG]at hp;have aB:Eo (Wy fn)=some (Zn fn):=by
  unfold Zn;cases h:Eo (Wy fn) with
  | none=>rw[h]at hs;cases hs
  | some x=>rfl
 have aD:=A5u aB;obtain⟨c,hc⟩:∃c,fn.body=some c:=by
  cases h:fn.body with
  | none=>unfold Wy at aB;rw[h]at aB;cases aB
  | some c=>exact ⟨c,rfl⟩
 have aH:Wy fn=Ig c:=by unfold Wy;rw[hc]
 rw[aH]at aD;have aC:=hp.app (Go.loop ρs hr hx);unfold E5h at he;split at he
 ·rename_i k s1 na1 qs hrun
  cases hres:C1s P s1 fn.results.toList with
  | none=>rw[hres]at he;cases he
  | some r=>
   rw[hres]at he;simp only[Option.map_some,Option.some.injEq,Prod.mk.injEq,Bool.and_eq_true]at he;obtain⟨he,hv,hk,hl,hd⟩:=he;subst ha;refine calls_of_wp hf hc (Tx ?_);rw[aD,←List.append_assoc];refine (Tu _ _ _ _).1 (aC nm0 _ w _ (A4h (Qq aF (fun _=>false)) w) fun μ a w' hR hG=>?_);refine Qx (ρ:=ρs n++de.flatMap (·.res)) hm fuel _ s (ρs n).length _ hrun (fun q hq=>?_) μ a w' _ ((hR.free hd).more _ hl) fun μ' a' w2 hR' hG'=>?_
   ·have h1:q.eqn (ρs n++de.flatMap (·.res)) g.f∈de.map (·.e):=by rw[←he];exact List.mem_map_of_mem hq
    obtain⟨d,_,h2⟩:=List.mem_map.1 h1;unfold Rq.Ok;rw[←h2];exact d.ok
   ·have h1:=B1o (fn:=fn) hR' hres;have aA:=hG.trans hG';have h3:Below w.heap.size w w2:=⟨aA.kp.os,aA.kp.tape,aA.kp.output,aA.kp.size,fun k hk=>aA.kp.block k hk fun b hb=>by cases hb⟩;rw[show r.val (ρs n++de.flatMap (·.res)) μ'=v from congrFun hv μ']at h1;cases k with
    | ext id=>cases hk
    | nrm=>exact ⟨hR'.df,_,h1,rfl,h3⟩
    | ret=>exact ⟨hR'.df,_,h1,rfl,h3⟩
 ·cases he
end
end
section
def fIx (l:List (Nat×Nat×Nat)):Fcts:=⟨fun n=>match l.find? (·.1==n) with
 | some x=>[x.2.1]
 | none=>[],fun n ms _=>match l.find? (·.1==n),ms with
 | some x,[a,b]=>a.v=.pointer (some ⟨b.b,x.2.2,none⟩)
 | _,_=>True⟩
def Cfg.ix (g:Cfg) (l:List (Nat×Nat×Nat)):Cfg:=⟨g.cut,g.dyn,fIx l⟩
section
variable {Φ : Fcts} {S : World → Prop}
def dGe {x y:Int} {b:Bool} (h:decide (y≤x)=b):DC Tryz.prog Φ S:=Sj (op:=.geq) (t:=3) (x:=.int .i64 x) (y:=.int .i64 y) (v:=.bool b) (fun X Y W=>by rw[←h];rfl) rfl
def D2h (x y:Int) (h:IntKind.i64.wrap (x-y)=x-y):DC Tryz.prog Φ S:=Sj (op:=.sub) (t:=3) (x:=.int .i64 x) (y:=.int .i64 y) (v:=.int .i64 (x-y)) (fun X Y W=>by
 have:(binOp .sub 3 (.int .i64 x) (.int .i64 y):Sem Value)=Op.intArith .sub .i64 x y:=rfl;show (do eqGuard .sub 3 X Y (.int .i64 x) (.int .i64 y);binOp .sub 3 (.int .i64 x) (.int .i64 y):Sem Value).run Tryz.prog W=_;rw[this];show Result.ok (Value.int .i64 (IntKind.i64.wrap (x-y))) W=_;rw[h]) rfl
theorem B3w (x:Int) (h : -64≤x) (h':x<128):IntKind.i64.wrap x=x:=IntWalk.i64_in _ (by omega)
def F2b {x y:Int} {b:Bool} (h:decide (x<y)=b):DC Tryz.prog Φ S:=Sj (op:=.lss) (t:=3) (x:=.int .i64 x) (y:=.int .i64 y) (v:=.bool b) (fun X Y W=>by rw[←h];rfl) rfl
def D8i (x y:Int) (h:IntKind.i64.wrap (x+y)=x+y):DC Tryz.prog Φ S:=Sj (op:=.add) (t:=3) (x:=.int .i64 x) (y:=.int .i64 y) (v:=.int .i64 (x+y)) (fun X Y W=>by
 have:(binOp .add 3 (.int .i64 x) (.int .i64 y):Sem Value)=Op.intArith .add .i64 x y:=rfl;show (do eqGuard .add 3 X Y (.int .i64 x) (.int .i64 y);binOp .add 3 (.int .i64 x) (.int .i64 y):Sem Value).run Tryz.prog W=_;rw[this];show Result.ok (Value.int .i64 (IntKind.i64.wrap (x+y))) W=_;rw[h]) rfl
def dIx {A e T len:TypeId} {cs:List Value} (n b k z:Nat) (kk:IntKind) (hu:Tryz.prog.underlying A=some (.array len e)) (hz:Gt Tryz.prog e=some z) (hk:k<len) (hn:b≠n) (hsup:Φ.sup n=[b]) (hp:∀a c W,Φ.p n [a,c] W=(a.v=.pointer (some ⟨c.b,k*z,none⟩))):DC Tryz.prog Φ S:=
 ⟨.sem (fun μ=>Instr.indexAt A (.pointer (some ⟨(μ b).b,0,none⟩)) (.int kk (k:Int))) (fun μ=>(μ n).v) (some n) (fun μ W=>Bk W (μ b).b T cs∧True),fun μ W _ _=>⟨⟨0,.pointer (some ⟨(μ b).b,k*z,none⟩),rfl⟩,by
  show (Instr.indexAt A (.pointer (some ⟨(μ b).b,0,none⟩)) (.int kk (k:Int))).run _ W=_;rw[Wt hu hz hk];simp[Xm],fun W'' _ _ _=>by
  show Φ.p n ((n::Φ.sup n).map _) W'';rw[hsup];show Φ.p n [_,_] W'';rw[hp];simp[Xm,hn]⟩,[]⟩
theorem A5s {w:World} {b T i:Nat} {ps:List Pn} (h:Ei ps) (hi:i<ps.length) (K:Bk w b T (E4 (Pl ps))):(Instr.loadAt 160 (.pointer (some ⟨b,i*20,none⟩))).run Tryz.prog w=.ok (Du ps i).val w:=by
 rw[←Pn.seg];have hr:=K.plAt h hi;obtain⟨hl,hc⟩:=Z0.1 hr;exact run_loadAt_mid (P:=Tryz.prog) w b (i*20) 160 (E4 (Du ps i).row) _ hc Pm rfl (by rw[hl];exact A8h)
def dLx {T:TypeId} {ps:List Pn} (n b k:Nat) (h:Ei ps) (hk:k<ps.length) (hsup:Φ.sup n=[b]) (hp:∀a c W,Φ.p n [a,c] W=(a.v=.pointer (some ⟨c.b,k*20,none⟩))):DC Tryz.prog Φ S:=
 ⟨.sem (fun μ=>Instr.loadAt 160 (μ n).v) (fun _=>(Du ps k).val) none (fun μ W=>Bk W (μ b).b T (E4 (Pl ps))∧(Φ.at n μ W∧True)),fun μ W _ hh=>by
  have h1:Φ.p n ((n::Φ.sup n).map μ) W:=hh.2.1;rw[hsup]at h1;replace h1:Φ.p n [μ n,μ b] W:=h1;rw[hp]at h1;show (Instr.loadAt 160 (μ n).v).run _ W=_;rw[h1];exact A5s h hk hh.1,(Du ps k).av (h.at k)⟩
def dLd {T:TypeId} {ps:List Pn} (b:Nat) (h:Ei ps) (hk:0<ps.length):DC Tryz.prog Φ S:=
 ⟨.sem (fun μ=>Instr.loadAt 160 (.pointer (some ⟨(μ b).b,0,none⟩))) (fun _=>(Du ps 0).val) none (fun μ W=>Bk W (μ b).b T (E4 (Pl ps))∧True),fun μ W _ hh=>by
  have:=A5s (i:=0) h hk hh.1;rw[Nat.zero_mul]at this;exact this,(Du ps 0).av (h.at 0)⟩
def dPl {f:FuncId} {args:Array Value} {ps:List Pn} (h:∀W,Calls Tryz.prog f args W fun e W'=>e=.returned (F8 (Pl ps))∧Below W.heap.size W W') (ho:Ei ps) (k:Nat) (hk:ps.length*20=k):DC Tryz.prog Φ S:=dR k h (by rw[X8 ho,hk])
def dL8 {T:TypeId} {l:List UInt8} (n b k:Nat) (hk:k<l.length) (hsup:Φ.sup n=[b]) (hp:∀a c W,Φ.p n [a,c] W=(a.v=.pointer (some ⟨c.b,k*1,none⟩))):DC Tryz.prog Φ S:=
 ⟨.sem (fun μ=>Instr.loadAt 5 (μ n).v) (fun _=>.int .u8 (n8 (g8 l k))) none (fun μ W=>Bk W (μ b).b T (c8 l)∧(Φ.at n μ W∧True)),fun μ W _ hh=>by
  have h1:Φ.p n ((n::Φ.sup n).map μ) W:=hh.2.1;rw[hsup]at h1;replace h1:Φ.p n [μ n,μ b] W:=h1;rw[hp]at h1;show (Instr.loadAt 5 (μ n).v).run _ W=_;rw[h1,Nat.mul_one];exact Wq (by kernel_rfl) (by rw[hh.1.cell];simp[c8,g8,List.getD_eq_getElem?_getD,hk];rfl),[Je [g8 l k] 1 rfl]⟩
end
end
section
def Xq:Nat→Pn→Pn
 | 0,p=>p
 | q+1,p=>Ob (Xq q p)
theorem Pp {p:Pn} (hp:p.Ok):∀q,(Xq q p).Ok
 | 0=>hp
 | q+1=>Yf _
def Mf (n:List UInt8) (p:Pn) (m:List UInt8):Nat→Pn
 | 0=>Du (Ax U6 T3) 0
 | i+1=>Fv (Fv (Xq 4 (Mf n p m i)) (Du (Ax U6 T3) (dg n (63-i))) T3) (Du (Ax p T3) (dg m (63-i))) T3
theorem A0g (n:List UInt8) (p:Pn) (m:List UInt8):∀i,(Mf n p m i).Ok
 | 0=>(Ml Q2 T3).at 0
 | i+1=>Cs _ _ _
def A9w (n:List UInt8) (p:Pn) (m:List UInt8):Pn:=Mf n p m 64
theorem B3e (n:List UInt8) (p:Pn) (m:List UInt8):(A9w n p m).Ok:=A0g _ _ _ _
def A1b:Nat→Pn→Pn
 | 0,p=>p
 | q+1,p=>B1n (A1b q p) (A1b q p)
theorem B5s (p:Pn) (k:List UInt64) (hp:p.Ok) (hk:k.length=5) (w:World):Calls Tryz.prog 116 #[p.val,F8 k] w fun e w'=>e=.returned (F8 (Pl (Ax p k)))∧Below w.heap.size w w':=by
 rw[←Pn.seg];exact C5v p k hp hk w
set_option maxRecDepth 100000
def E5y:St:=D6x 46 22 [(3,.v false [.p 0 0]),(5,.v false [.p 2 0]),(6,.v false [.p 3 0]),(7,.v false [.p 5 0]),(8,.v false [.p 13 0]),(9,.v false [.p 14 0]),(10,.v false [.p 19 0]),(11,.v false [.m 9 1])] [(0,35,[.m 0 32]),(2,35,[.m 1 32]),(3,160,List.replicate 20 (.c (.int .u64 0))),(5,158,[.m 2 5]),(13,206,[.m 3 320]),(14,206,[.m 4 320]),(19,160,[.m 5 5,.m 6 5,.m 7 5,.m 8 5])]
theorem C6s (n:List UInt8) (p:Pn) (mm:List UInt8) (hn:n.length=32) (hp:p.Ok) (hmm:mm.length=32) (w:World):Calls Tryz.prog 197 #[A8 n,F8 p.row,A8 mm] w fun e w'=>e=.returned (F8 (A9w n p mm).row)∧Below w.heap.size w w':=by
 rw[Pn.seg,Pn.seg];have oA:=Ml Q2 T3;have oB:=Ml hp T3;have lA:=Ko U6 T3;have lB:=Ko p T3;let R (i:Nat) (z:Int):List Av:=[Je n 32 hn,Je mm 32 hmm,Bj T3 5 O5,Bj (Pl (Ax U6 T3)) 320 (by rw[X8 oA,lA]),Bj (Pl (Ax p T3)) 320 (by rw[X8 oB,lB])]++((Mf n p mm i).av (A0g n p mm i)++[Wo (.int .i64 z) rfl])
 refine A8e (g:=Fy) (ρ0:=[Je n 32 hn]++(p.av hp++[Je mm 32 hmm])) 200 64 E5y (fun i=>R i (63-(i:Int))) [] F9 Tryz.func197 (by kernel_rfl) ?_ (fun i hi=>?_) ?_ (by kernel_rfl)
 ·exact Go.run (g:=Fy) 200 [dE Uh O5,dP Vv Q2,dPl (B5s U6 T3 Q2 O5) oA 320 (by rw[lA]),dPl (B5s p T3 hp O5) oB 320 (by rw[lB]),dLd (T:=206) 13 oA (by omega)] F9 (by kernel_rfl)
 ·have hr:=A0g n p mm i;have h1:=B3m n (63-i);have h2:=B3m mm (63-i);show Go _ _ (R i (63-(i:Int))) _ _ (R (i+1) (63-((i+1:Nat):Int))) _ _;rw[show 63-((i+1:Nat):Int)=((63-i:Nat):Int)-1 by omega,show 63-(i:Int)=((63-i:Nat):Int) by omega];exact Go.run (g:=Fy.ix [(54,13,dg n (63-i)*20),(61,14,dg mm (63-i)*20)]) 200 ([dGe (x:=((63-i:Nat):Int)) (y:=0) (b:=true) (by simp)]++((List.range 4).map fun j=>dP (Ve (Xq j (Mf n p mm i)) (Pp hr j)) (Pp hr (j+1))) ++
   [dV (Ql n hn (63-i) (by omega)) rfl,dIx (T:=206) (cs:=E4 (Pl (Ax U6 T3))) 54 13 (dg n (63-i)) 20 .u8 Tryz.underlying206 (by kernel_rfl) h1 (by decide) rfl (fun _ _ _=>rfl),dLx (T:=206) 54 13 (dg n (63-i)) oA (by omega) rfl (fun _ _ _=>rfl),dP (Pu (Xq 4 (Mf n p mm i)) (Du (Ax U6 T3) (dg n (63-i))) T3 (Pp hr 4) (oA.at _) O5) (Cs _ _ _),
   dV (Ql mm hmm (63-i) (by omega)) rfl,dIx (T:=206) (cs:=E4 (Pl (Ax p T3))) 61 14 (dg mm (63-i)) 20 .u8 Tryz.underlying206 (by kernel_rfl) h2 (by decide) rfl (fun _ _ _=>rfl),dLx (T:=206) 61 14 (dg mm (63-i)) oB (by omega) rfl (fun _ _ _=>rfl),dP (Pu (Fv (Xq 4 (Mf n p mm i)) (Du (Ax U6 T3) (dg n (63-i))) T3) (Du (Ax p T3) (dg mm (63-i))) T3 (Cs _ _ _) (oB.at _) O5) (Cs _ _ _),D2h ((63-i:Nat):Int) 1 (B3w _ (by omega) (by omega))]) F9 (by kernel_rfl)
 ·exact Go.run (g:=Fy) 200 [dGe (x:=-1) (y:=0) (b:=false) rfl] F9 (by kernel_rfl)
end
theorem F1c (x y:UInt8):Op.intArith .sub .u8 (n8 x) (n8 y)=pure (.int .u8 (n8 (x-y))):=by
 unfold Op.intArith n8;have hx:=lt8 x;have hy:=lt8 y;have e:IntKind.u8.wrap ((x.toNat:Int)-(y.toNat:Int))=(((256-y.toNat+x.toNat) % 256:Nat):Int):=by
  simp only[IntKind.wrap,IntKind.bits,IntKind.signed,Bool.false_and,Bool.false_eq_true,if_false];omega
 rw[e,UInt8.toNat_sub]
@[go_sem ↓ high] theorem F4r (x : UInt8) : Op.intArith .sub .u8 (n8 x) 97 = pure (.int .u8 (n8 (x - 97))) := F1c x 97
@[go_sem ↓ high] theorem F3b (x : UInt8) : Op.intArith .sub .u8 (n8 x) 48 = pure (.int .u8 (n8 (x - 48))) := F1c x 48
@[go_sem ↓ high] theorem F4d (x : UInt8) : Op.intArith .add .u8 (n8 x) 10 = pure (.int .u8 (n8 (x + 10))) := F7a x 10
def Oy (c:UInt8):UInt8:=if 97≤c.toNat then c-97+10 else c-48
theorem A1s (c:UInt8) (w:World):Calls Tryz.prog 200 #[.int .u8 (n8 c)] w fun e w'=>e=.returned (.int .u8 (n8 (Oy c)))∧Below w.heap.size w w':=by
 by_cases h:97≤c.toNat
 ·have h1:97≤n8 c:=by unfold n8;omega
  have HN:Hid (Oy c=c-97+10):=Lib.hid (if_pos h);clear h;go_enter Tryz.func200,Tryz.ntmps200;go_wp2_with fail;go_ret;exact ⟨by rw[HN.out];rfl,Below.refl _ _⟩
 ·have h1:n8 c<97:=by unfold n8;omega
  have HN:Hid (Oy c=c-48):=Lib.hid (if_neg h);clear h;go_enter Tryz.func200,Tryz.ntmps200;go_wp2_with fail;go_ret;exact ⟨by rw[HN.out];rfl,Below.refl _ _⟩
noncomputable def Yj:ByteArray:=match Tryz.f199.body with
 | some (.seq _ (.seq (.region _ ops _) _))=>(match ops[0]? with
  | some o=>(match o.op with | .assign (.const (.string b))=>b | _=>⟨#[]⟩)
  | none=>⟨#[]⟩)
 | _=>⟨#[]⟩
noncomputable def J6:List UInt8:=Yj.data.toList
theorem A3a:J6.length=4096:=by kernel_rfl
theorem B5l : Tryz.f199.body = some (Code.seq (Code.region 0 #[{ dst := some 0, op := .assign (.const (.string ⟨#[]⟩)), type := 9, pos := "curve.go:119", after := #[], guard := none }] false)
 (Code.seq (Code.region 1 #[{ dst := some 0, op := .assign (.const (.string Yj)), type := 9, pos := "curve.go:120", after := #[], guard := none }] false) Code.ret)) := by kernel_rfl
theorem C8x:Value.string Yj=S8 J6:=rfl
attribute [irreducible] Yj J6
theorem C3w (w:World):Calls Tryz.prog 199 #[] w fun e w'=>e=.returned (S8 J6)∧Below w.heap.size w w':=by
 refine calls_of_wp Tryz.func199 B5l ?_;simp only[Tryz.ntmps199,List.size_toArray,List.length_cons,List.length_nil,Nat.reduceAdd,Nat.reduceSub,Array.replicate_succ,
  Array.replicate_zero,List.push_toArray,List.append_toArray,List.nil_append,List.cons_append]
 have HS:=Lib.hid C8x;go_wp2_with fail;go_ret;exact ⟨by rw[←HS.out];rfl,Below.refl _ _⟩
def E2q (w:World) (raw:Result Next):Value→Value→Result Next
 | .string s,.int _ i=>if 0≤i∧i<s.data.toList.length then .ok (.value (.int .u8 (n8 (g8 s.data.toList i.toNat)))) w else raw
 | _,_=>raw
@[go_sem] theorem F3y (w : World) (raw : Result Next) (l : List UInt8) (k : IntKind) (i : Int) : E2q w raw (S8 l) (.int k i) = if 0 ≤ i ∧ i < l.length then .ok (.value (.int .u8 (n8 (g8 l i.toNat)))) w else raw := rfl
@[go_sem ↓ high] theorem E4w (w : World) (ρ : Operand → Value) (dst : Option Tmp) (ty : TypeId) (pos : String) (after : Array Edge) (guard : Option (Nat × Bool)) (x ix : Operand) :
 (execOp ρ { dst,op:=.index 9 x ix,type:=ty,pos,after,guard }).run Tryz.prog w=E2q w (F2 Tryz.prog ρ { dst,op:=.index 9 x ix,type:=ty,pos,after,guard } w) (ρ x) (ρ ix):=by
 generalize hv:ρ x=v;generalize hz:ρ ix=z;unfold E2q;split
 ·rename_i s kk i
  split
  ·rename_i hc
   have hs:s.size=s.data.toList.length:=rfl;have hi:0≤i∧i<s.size:=by omega
   have e1:=run_index_string (P:=Tryz.prog) w 9 s kk i Tryz.underlying9;rw[dif_pos hi]at e1;simp only[execOp,hv,hz,Sem.run_bind,e1,Result.andThen_ok,Sem.run_pure];have e2:((s[i.toNat]'(by omega)).toNat:Int)=n8 (g8 s.data.toList i.toNat):=by
    have hl:i.toNat<s.data.toList.length:=by omega
    unfold g8 n8;rw[List.getD_eq_getElem?_getD,List.getElem?_eq_getElem hl];show ((s.data[i.toNat]'(by omega)).toNat:Int)=_;simp
   rw[e2]
  ·rfl
 ·rfl
theorem D7b:((Tryz.prog.info? 302).bind (·.zero))=some (A8 (z8 64)):=by kernel_rfl
@[go_sem ↓ high] theorem E8e:RA' 302 (c8 (z8 64)).toArray:=fun w ρ dst ty pos after guard=>I7 w ρ dst ty pos after guard 302 (A8 (z8 64)) D7b
def E1 (l:List UInt8) (o:Nat):List UInt8:=(l.drop o).take 32
theorem A7w {l:List UInt8} (hl:l.length=64) (o:Nat) (ho:o≤32):(E1 l o).length=32:=by unfold E1;simp;omega
theorem Bk.xyAt {w:World} {g:Nat} {t:TypeId} {l:List UInt8} (K:Bk w g t (c8 l)) (hl:l.length=64) (o:Nat) (ho:o≤32):D9 w ⟨g,o,none⟩ 32=some (c8 (E1 l o)):=by
 unfold E1;rw[K.rowMid o 32 (by simp;omega)];simp[c8]
noncomputable def U9 (i k:Nat):UInt8:=Oy (g8 J6 (128*i+2*k)) <<< 4 ||| Oy (g8 J6 (128*i+2*k+1))
noncomputable def B8s (i:Nat):List UInt8:=Fm (U9 i) 64 64
noncomputable def Fj (i:Nat):Pn:=V8 (P5 (E1 (B8s i) 0)) (P5 (E1 (B8s i) 32))
theorem Ku (i:Nat):(Fj i).Ok:=Bh (I4 _) (I4 _)
theorem C8r {i:Nat} (h:i<32):(Ee Fj 32 i).set i (V8 (P5 (E1 (Fm (U9 i) 64 64) 0)) (P5 (E1 (Fm (U9 i) 64 64) 32)))=Ee Fj 32 (i+1):=D0g h rfl
noncomputable def Sn:List Pn:=Ee Fj 32 32
theorem Xx:Ei Sn:=Ip Ku 32 32
@[simp, go_sem] theorem D8f : Sn.length = 32 := Xd _ _ _
theorem D5s {i:Nat} (hi:i<32):Du Sn i=Fj i:=by unfold Sn;rw[B9r hi,if_pos hi]
theorem B7f (w:World):Calls Tryz.prog 168 #[] w fun e w'=>e=.returned (F8 (Pl Sn))∧Below w.heap.size w w':=by
 obtain⟨W0,cR⟩:∃z,z=(w.alloc (Obj.cells (E4 (J7 640)).toArray 269)):=⟨_,rfl⟩;have hL:W0=Q6 w [(269,(E4 (J7 640)))]:=cR;have B0:Below w.heap.size w W0:=by rw[hL];exact H6 _ _
 have bA:Bk W0 (w.heap.size) 269 (E4 (J7 640)):=by rw[hL];exact E0 _ w 0 _ _ rfl
 have z0:w.heap.size+1≤W0.heap.size:=by rw[hL,O7];simp
 have dI:W0.heap.size=w.heap.size+1:=by rw[hL,O7];rfl
 clear hL;obtain⟨V1,bK⟩:∃z,z=W0.alloc (Obj.cells (E4 (J7 640)).toArray 269):=⟨_,rfl⟩;have cS:W0.heap.size=w.heap.size+1:=dI;have aI:Bk V1 (w.heap.size+1) 269 (E4 (J7 640)):=by rw[bK,←cS];exact Bk.new W0 _ _
 have aL:Bk V1 (w.heap.size) 269 (E4 (J7 640)):=by rw[bK];exact bA.alloc _
 have cT:Below w.heap.size w V1:=by rw[bK];exact B0.alloc B0.size _
 have bM:w.heap.size<w.heap.size+1:=by rw[←cS];exact bA.lt
 have dJ:w.heap.size+1≤w.heap.size+1:=by omega
 clear cS;go_enter Tryz.func168,Tryz.ntmps168;go_wp2_with fail;rw[←cR,←bK];have dK:w.heap.size+1≤V1.heap.size:=by have hz:=z0;rw[bK];first | (simp;omega) | (simp[World.setCell];omega)
 clear cR bK dI bA B0 z0;rw[←E0t Fj]at aI;go_wp2_with fail;refine (C3w V1).mono ?_;rintro e W2 ⟨rfl,b3⟩;have B2:=C1 cT b3 cT.size;have z2:=Nat.le_trans dK b3.size;have bN:=aL.below b3 aL.lt;have bO:=aI.below b3 aI.lt;clear b3 cT dK aL aI;go_wp2_with fail;go_loopw [8] (fun x8 wr=>∃i:Nat,0≤i∧i≤32∧x8=.int .i64 (i:Int)∧Bk wr (w.heap.size) 269 (E4 (J7 640))∧Bk wr (w.heap.size+1) 269 (E4 (Pl (Ee Fj 32 i)))∧Below w.heap.size w wr∧w.heap.size+1≤wr.heap.size) (fun x8 _=>32-(intOf x8).toNat)
 case atStart=>exact ⟨0,by omega,by omega,rfl,bN,bO,B2,z2⟩
 case round=>
  clear B2 z2 bN bO;obtain⟨i,eS,hi,rfl,aA,aB,aS,aT⟩:=hrel;by_cases hlti:i<32
  ·
   have eT:decide ((i:Int)<32)=true:=decide_eq_true (by omega);obtain⟨V4,bB⟩:∃z,z=wr.alloc (Obj.cells (c8 (z8 64)).toArray 302):=⟨_,rfl⟩;have bP:wr.heap.size=wr.heap.size:=rfl;have aJ:Bk V4 (wr.heap.size) 302 (c8 (z8 64)):=by rw[bB,←bP];exact Bk.new wr _ _
   have aV:Bk V4 (w.heap.size) 269 (E4 (J7 640)):=by rw[bB];exact aA.alloc _
   have aW:Bk V4 (w.heap.size+1) 269 (E4 (Pl (Ee Fj 32 i))):=by rw[bB];exact aB.alloc _
   have dL:Below w.heap.size w V4:=by rw[bB];exact aS.alloc aS.size _
   have aM:w.heap.size<wr.heap.size:=by rw[←bP];exact aA.lt
   have aN:w.heap.size+1<wr.heap.size:=by rw[←bP];exact aB.lt
   have bQ:w.heap.size+1≤wr.heap.size:=by rw[←bP];exact Nat.le_trans aT (Nat.le_refl _)
   clear bP;go_wp2_with fail;rw[←bB];obtain⟨p5,cU⟩:∃g,g=wr.heap.size:=⟨_,rfl⟩;rw[←cU]at aJ aM aN bQ;try rw[←cU]
   have dM:w.heap.size+1≤V4.heap.size:=by have hz:=aT;rw[bB];first | (simp;omega) | (simp[World.setCell];omega)
   clear bB cU aT;rw[←A4i (f:=U9 i)]at aJ;go_wp2_with fail;go_loopw [11] (fun x11 wr=>∃k:Nat,0≤k∧k≤64∧x11=.int .i64 (k:Int)∧Bk wr (w.heap.size) 269 (E4 (J7 640))∧Bk wr (w.heap.size+1) 269 (E4 (Pl (Ee Fj 32 i)))∧Bk wr (p5) 302 (c8 (Fm (U9 i) 64 k))∧Below w.heap.size w wr∧w.heap.size+1≤wr.heap.size) (fun x11 _=>64-(intOf x11).toNat)
   case atStart=>exact ⟨0,by omega,by omega,rfl,aV,aW,aJ,dL,dM⟩
   case round=>
    clear dL dM aV aW aJ;obtain⟨k,eU,hk,rfl,aA,aB,aD,aS,aT⟩:=hrel;by_cases hltk:k<64
    ·
     have eV:decide ((k:Int)<64)=true:=decide_eq_true (by omega);obtain⟨aC,bR⟩:∃a,a=128*i+2*k:=⟨_,rfl⟩;have eW:128*(i:Int)+2*(k:Int)=(aC:Int):=by omega
     have dZ:((aC:Int)+1).toNat=aC+1:=by omega
     have eB:=A3a;have eX:aC+1<J6.length:=by omega
     have eC:(aC:Int)+1<(J6.length:Int):=by omega
     have dO:(aC:Int)<(J6.length:Int):=by omega
     obtain⟨qq,eD⟩:∃a,a=k / 32:=⟨_,rfl⟩;obtain⟨rr,eE⟩:∃a,a=k % 32:=⟨_,rfl⟩;have eY:(k:Int) / 32=(qq:Int):=by omega
     have eZ:(k:Int) % 32=(rr:Int):=by omega
     have eF:Int.tmod (k:Int) 32=(rr:Int):=by rw[Int.tmod_eq_emod_of_nonneg (by omega)];omega
     have eG:qq<2:=by omega
     have eH:rr<32:=by omega
     have dQ:qq*32+rr=k:=by omega
     have eI:=Lib.hid dQ;have HA:Hid (U9 i k=Oy (g8 J6 aC) <<< 4 ||| Oy (g8 J6 (aC+1))):=Lib.hid (by rw[bR];rfl);clear bR eD eE eB dQ;go_wp2_with fail;have S6:Below wr.heap.size wr wr.drew:=(Below.refl _ _).drew;refine E3 (fun W=>True) (by kernel_rfl) ?_;refine C5 (A:=?fB) [0,1,2,3,4,5,6,9,10,11,12,15] (by kernel_rfl) (by kernel_rfl) rfl (by kernel_rfl) (by kernel_rfl) trivial (h:=fun W hW=>?eJ) (hr:=?fC);case eJ=>
      simp only[pick,List.getElem?_cons_zero,List.getElem?_cons_succ];repeat (go_big_quiet_step (fail))
      refine wpQuiet_nil ?_;rfl
     refine Bm [zv 7 26 (.int .u8 (n8 (Oy (g8 J6 aC)))),zv 8 27 (.int .u8 (n8 (Oy (g8 J6 aC) <<< 4))),zv 13 32 (.int .u8 (n8 (Oy (g8 J6 (aC+1))))),zv 14 33 (.int .u8 (n8 (Oy (g8 J6 aC) <<< 4 ||| Oy (g8 J6 (aC+1))))),zv 16 35 (.pointer (some ⟨p5,qq*32+rr,none⟩))] (by kernel_rfl) (fun W hW=>trivial) ?bS ?bT ?bU;case bS=>exact (List.forall_mem_cons.2 ⟨P8 _ _ _,(List.forall_mem_cons.2 ⟨P8 _ _ _,(List.forall_mem_cons.2 ⟨P8 _ _ _,(List.forall_mem_cons.2 ⟨P8 _ _ _,(List.forall_mem_cons.2 ⟨P8 _ _ _,(fun _ h=>by cases h)⟩)⟩)⟩)⟩)⟩)
     case bT=>
      refine (List.forall_mem_cons.2 ⟨?cV,(List.forall_mem_cons.2 ⟨?cW,(List.forall_mem_cons.2 ⟨?bW,(List.forall_mem_cons.2 ⟨?bX,(List.forall_mem_cons.2 ⟨?bY,(fun _ h=>by cases h)⟩)⟩)⟩)⟩)⟩);case cV=>
       intro o ho us W hW hp Q' hQ';obtain rfl:=Option.some.inj ho;clear hp ho;rw[C2]at hQ' ⊢;dsimp only[E5,E6,List.foldl,zv,za]at hQ' ⊢;simp only[List.set_cons_succ,List.set_cons_zero];go_wp2_with fail;refine (A1s (g8 J6 aC) W).mono ?_;rintro e W2 ⟨rfl,b2⟩;go_wp2_with fail;exact C9 (hQ' _ _ b2 rfl (fun h=>by cases h)) (by kernel_rfl)
      case cW=>intro o ho us W hW hp Q' hQ';obtain rfl:=Option.some.inj ho;have aE:us 7=(.int .u8 (n8 (Oy (g8 J6 aC)))):=hp 0 _ rfl (by kernel_rfl);clear hp ho;rw[C2]at hQ' ⊢;dsimp only[E5,E6,List.foldl,zv,za]at hQ' ⊢;simp only[List.set_cons_succ,List.set_cons_zero];rw[aE]at hQ' ⊢;clear aE;go_wp2_with fail;exact C9 (hQ' _ _ (Below.refl _ _) rfl (fun h=>by cases h)) (by kernel_rfl)
      case bW=>intro o ho us W hW hp Q' hQ';obtain rfl:=Option.some.inj ho;have aE:us 7=(.int .u8 (n8 (Oy (g8 J6 aC)))):=hp 0 _ rfl (by kernel_rfl);clear hp ho;rw[C2]at hQ' ⊢;dsimp only[E5,E6,List.foldl,zv,za]at hQ' ⊢;simp only[List.set_cons_succ,List.set_cons_zero];rw[aE]at hQ' ⊢;clear aE;go_wp2_with fail;refine (A1s (g8 J6 (aC+1)) W).mono ?_;rintro e W2 ⟨rfl,b2⟩;go_wp2_with fail;exact C9 (hQ' _ _ b2 rfl (fun h=>by cases h)) (by kernel_rfl)
      case bX=>intro o ho us W hW hp Q' hQ';obtain rfl:=Option.some.inj ho;have aO:us 8=(.int .u8 (n8 (Oy (g8 J6 aC) <<< 4))):=hp 1 _ rfl (by kernel_rfl);have aF:us 13=(.int .u8 (n8 (Oy (g8 J6 (aC+1))))):=hp 2 _ rfl (by kernel_rfl);clear hp ho;rw[C2]at hQ' ⊢;dsimp only[E5,E6,List.foldl,zv,za]at hQ' ⊢;simp only[List.set_cons_succ,List.set_cons_zero];rw[aO,aF]at hQ' ⊢;clear aO aF;go_wp2_with fail;exact C9 (hQ' _ _ (Below.refl _ _) rfl (fun h=>by cases h)) (by kernel_rfl)
      case bY=>intro o ho us W hW hp Q' hQ';obtain rfl:=Option.some.inj ho;have aE:us 7=(.int .u8 (n8 (Oy (g8 J6 aC)))):=hp 0 _ rfl (by kernel_rfl);have aO:us 8=(.int .u8 (n8 (Oy (g8 J6 aC) <<< 4))):=hp 1 _ rfl (by kernel_rfl);have aF:us 13=(.int .u8 (n8 (Oy (g8 J6 (aC+1))))):=hp 2 _ rfl (by kernel_rfl);have aP:us 14=(.int .u8 (n8 (Oy (g8 J6 aC) <<< 4 ||| Oy (g8 J6 (aC+1))))):=hp 3 _ rfl (by kernel_rfl);clear hp ho;rw[C2]at hQ' ⊢;dsimp only[E5,E6,List.foldl,zv,za]at hQ' ⊢;simp only[List.set_cons_succ,List.set_cons_zero];rw[aE,aO,aF,aP]at hQ' ⊢;clear aE aO aF aP;go_wp2_with fail;exact C9 (hQ' _ _ (Below.refl _ _) rfl (fun h=>by cases h)) (by kernel_rfl)
     case bU=>
     intro us W7 b8 hg bC cX;have aE:us 7=(.int .u8 (n8 (Oy (g8 J6 aC)))):=hg _ (List.mem_of_getElem? (i:=0) rfl);have aO:us 8=(.int .u8 (n8 (Oy (g8 J6 aC) <<< 4))):=hg _ (List.mem_of_getElem? (i:=1) rfl);have aF:us 13=(.int .u8 (n8 (Oy (g8 J6 (aC+1))))):=hg _ (List.mem_of_getElem? (i:=2) rfl);have aP:us 14=(.int .u8 (n8 (Oy (g8 J6 aC) <<< 4 ||| Oy (g8 J6 (aC+1))))):=hg _ (List.mem_of_getElem? (i:=3) rfl);have bZ:us 16=(.pointer (some ⟨p5,qq*32+rr,none⟩)):=hg _ (List.mem_of_getElem? (i:=4) rfl);have b9:=C1 S6 b8 S6.size;rw[C2];dsimp only[E6,List.foldl,zv,za];simp only[List.set_cons_succ,List.set_cons_zero];rw[aE,aO,aF,aP,bZ];clear hg bC cX aE aO aF aP bZ b8 S6;have B7:=C1 aS b9 aS.size;have z7:=Nat.le_trans aT b9.size;have cA:=aA.below b9 aA.lt;have cB:=aB.below b9 aB.lt;have aU:=aD.below b9 aD.lt;clear b9 aS aT aA aB aD;obtain⟨cC,aG⟩:∃z,z=W7.setCell ⟨p5,qq*32+rr,none⟩ (.int .u8 (n8 (Oy (g8 J6 aC) <<< 4 ||| Oy (g8 J6 (aC+1))))):=⟨_,rfl⟩;have cD:Bk cC (p5) 302 (c8 ((Fm (U9 i) 64 k).set (qq*32+rr) (Oy (g8 J6 aC) <<< 4 ||| Oy (g8 J6 (aC+1))))):=by have:=aU.set_ (qq*32+rr) (.int .u8 (n8 (Oy (g8 J6 aC) <<< 4 ||| Oy (g8 J6 (aC+1)))));rw[Kj]at this;rw[aG];exact this
     have cE:Bk cC (w.heap.size) 269 (E4 (J7 640)):=by rw[aG];exact cA.far (p:=⟨p5,qq*32+rr,none⟩) (by show w.heap.size≠p5;omega) _
     have cF:Bk cC (w.heap.size+1) 269 (E4 (Pl (Ee Fj 32 i))):=by rw[aG];exact cB.far (p:=⟨p5,qq*32+rr,none⟩) (by show w.heap.size+1≠p5;omega) _
     have eK:Below w.heap.size w cC:=by rw[aG];exact B7.setCell (by show w.heap.size≤p5;omega) _
     have cG:=(aU).at_ (Jo (l:=(Fm (U9 i) 64 k)) (i:=qq*32+rr) (by have hh:(Fm (U9 i) 64 k).length=64:=(El (U9 i) 64 k);omega));have cH:=(aU).frozen (qq*32+rr);refine C3 17 (by kernel_rfl) (by rfl) (by rfl) (fun Q' hQ'=>?_);dsimp only[E5];go_wp2_with fail;rw[←aG];refine hQ' _ _ trivial ?_;clear hQ' cG cH;have eL:w.heap.size+1≤cC.heap.size:=by have hz:=z7;rw[aG];simp[World.setCell];omega
     clear aG B7 z7 cA cB aU;refine F0 (by kernel_rfl) ?_;go_wp2_with fail;go_roundw;case rel=>exact ⟨k+1,by omega,by omega,by go_num,cE,cF,(by have h4:=cD;rw[eI.out,B9d hltk HA.out.symm]at h4;exact h4),eK,eL⟩
     case measure=>simp[intOf];omega
    ·
     obtain rfl:k=64:=by omega
     have dS:((64:Nat):Int)=64:=rfl;rw[dS];clear dS;go_wp2_with fail;have cY:Below wr.heap.size wr wr.drew:=(Below.refl _ _).drew;refine E3 (fun W=>Bk W (p5) 302 (c8 (Fm (U9 i) 64 64))) (by kernel_rfl) ?_;refine C5 (A:=?eM) [0,1,2,4,5] (by kernel_rfl) (by kernel_rfl) rfl (by kernel_rfl) (by kernel_rfl) (aD.drew) (h:=fun W hW=>?cZ) (hr:=?eN);case cZ=>
      have f2:=Bk.xyAt (hW) (El (U9 i) 64 64) 0 (by decide);have f5:=Bk.xyAt (hW) (El (U9 i) 64 64) 32 (by decide);simp only[pick,List.getElem?_cons_zero,List.getElem?_cons_succ];repeat (go_big_quiet_step (fail))
      refine wpQuiet_nil ?_;rfl
     refine Bm [zv 3 40 (F8 (P5 (E1 (Fm (U9 i) 64 64) 0))),zv 6 43 (F8 (P5 (E1 (Fm (U9 i) 64 64) 32))),zv 7 44 (F8 (V8 (P5 (E1 (Fm (U9 i) 64 64) 0)) (P5 (E1 (Fm (U9 i) 64 64) 32))).row),zv 8 45 (.pointer (some ⟨w.heap.size+1,i*20,none⟩))] (by kernel_rfl) (fun W hW=>(aD.drew.below hW aD.drew.lt)) ?bD ?bE ?bF;case bD=>exact (List.forall_mem_cons.2 ⟨P8 _ _ _,(List.forall_mem_cons.2 ⟨P8 _ _ _,(List.forall_mem_cons.2 ⟨P8 _ _ _,(List.forall_mem_cons.2 ⟨P8 _ _ _,(fun _ h=>by cases h)⟩)⟩)⟩)⟩)
     case bE=>
      refine (List.forall_mem_cons.2 ⟨?cI,(List.forall_mem_cons.2 ⟨?cJ,(List.forall_mem_cons.2 ⟨?cK,(List.forall_mem_cons.2 ⟨?cL,(fun _ h=>by cases h)⟩)⟩)⟩)⟩);case cI=>
       intro o ho us W hW hp Q' hQ';obtain rfl:=Option.some.inj ho;clear hp ho;rw[C2]at hQ' ⊢;dsimp only[E5,E6,List.foldl,zv,za]at hQ' ⊢;simp only[List.set_cons_succ,List.set_cons_zero];go_wp2_with fail;refine (Di (E1 (Fm (U9 i) 64 64) 0) (A7w (El (U9 i) 64 64) 0 (by decide)) W).mono ?_;rintro e W2 ⟨rfl,b2⟩;go_wp2_with fail;exact C9 (hQ' _ _ b2 rfl (fun h=>by cases h)) (by kernel_rfl)
      case cJ=>intro o ho us W hW hp Q' hQ';obtain rfl:=Option.some.inj ho;have aQ:us 3=(F8 (P5 (E1 (Fm (U9 i) 64 64) 0))):=hp 0 _ rfl (by kernel_rfl);clear hp ho;rw[C2]at hQ' ⊢;dsimp only[E5,E6,List.foldl,zv,za]at hQ' ⊢;simp only[List.set_cons_succ,List.set_cons_zero];rw[aQ]at hQ' ⊢;clear aQ;go_wp2_with fail;refine (Di (E1 (Fm (U9 i) 64 64) 32) (A7w (El (U9 i) 64 64) 32 (by decide)) W).mono ?_;rintro e W2 ⟨rfl,b2⟩;go_wp2_with fail;exact C9 (hQ' _ _ b2 rfl (fun h=>by cases h)) (by kernel_rfl)
      case cK=>intro o ho us W hW hp Q' hQ';obtain rfl:=Option.some.inj ho;have aQ:us 3=(F8 (P5 (E1 (Fm (U9 i) 64 64) 0))):=hp 0 _ rfl (by kernel_rfl);have aX:us 6=(F8 (P5 (E1 (Fm (U9 i) 64 64) 32))):=hp 1 _ rfl (by kernel_rfl);clear hp ho;rw[C2]at hQ' ⊢;dsimp only[E5,E6,List.foldl,zv,za]at hQ' ⊢;simp only[List.set_cons_succ,List.set_cons_zero];rw[aQ,aX]at hQ' ⊢;clear aQ aX;go_wp2_with fail;refine (B5i (P5 (E1 (Fm (U9 i) 64 64) 0)) (P5 (E1 (Fm (U9 i) 64 64) 32)) (I4 (E1 (Fm (U9 i) 64 64) 0)) (I4 (E1 (Fm (U9 i) 64 64) 32)) W).mono ?_;rintro e W2 ⟨rfl,b2⟩;go_wp2_with fail;exact C9 (hQ' _ _ b2 rfl (fun h=>by cases h)) (by kernel_rfl)
      case cL=>intro o ho us W hW hp Q' hQ';obtain rfl:=Option.some.inj ho;have aQ:us 3=(F8 (P5 (E1 (Fm (U9 i) 64 64) 0))):=hp 0 _ rfl (by kernel_rfl);have aX:us 6=(F8 (P5 (E1 (Fm (U9 i) 64 64) 32))):=hp 1 _ rfl (by kernel_rfl);have aE:us 7=(F8 (V8 (P5 (E1 (Fm (U9 i) 64 64) 0)) (P5 (E1 (Fm (U9 i) 64 64) 32))).row):=hp 2 _ rfl (by kernel_rfl);clear hp ho;rw[C2]at hQ' ⊢;dsimp only[E5,E6,List.foldl,zv,za]at hQ' ⊢;simp only[List.set_cons_succ,List.set_cons_zero];rw[aQ,aX,aE]at hQ' ⊢;clear aQ aX aE;go_wp2_with fail;exact C9 (hQ' _ _ (Below.refl _ _) rfl (fun h=>by cases h)) (by kernel_rfl)
     case bF=>
     intro us dT dU hg bC cX;have aQ:us 3=(F8 (P5 (E1 (Fm (U9 i) 64 64) 0))):=hg _ (List.mem_of_getElem? (i:=0) rfl);have aX:us 6=(F8 (P5 (E1 (Fm (U9 i) 64 64) 32))):=hg _ (List.mem_of_getElem? (i:=1) rfl);have aE:us 7=(F8 (V8 (P5 (E1 (Fm (U9 i) 64 64) 0)) (P5 (E1 (Fm (U9 i) 64 64) 32))).row):=hg _ (List.mem_of_getElem? (i:=2) rfl);have aO:us 8=(.pointer (some ⟨w.heap.size+1,i*20,none⟩)):=hg _ (List.mem_of_getElem? (i:=3) rfl);have bL:=C1 cY dU cY.size;rw[C2];dsimp only[E6,List.foldl,zv,za];simp only[List.set_cons_succ,List.set_cons_zero];rw[aQ,aX,aE,aO];clear hg bC cX aQ aX aE aO dU cY;have dW:=C1 aS bL aS.size;have dX:=Nat.le_trans aT bL.size;have aY:=aA.below bL aA.lt;have aR:=aB.below bL aB.lt;have aZ:=aD.below bL aD.lt;clear bL aS aT aA aB aD;obtain⟨cM,aH⟩:∃z,z=C4 dT ⟨w.heap.size+1,i*20,none⟩ (E4 (V8 (P5 (E1 (Fm (U9 i) 64 64) 0)) (P5 (E1 (Fm (U9 i) 64 64) 32))).row):=⟨_,rfl⟩;have cN:Bk cM (w.heap.size+1) 269 (E4 (Pl ((Ee Fj 32 i).set i (V8 (P5 (E1 (Fm (U9 i) 64 64) 0)) (P5 (E1 (Fm (U9 i) 64 64) 32)))))):=by rw[aH];exact Bk.plPut (i:=i) (aR) (Ip Ku 32 i) (by simp;try omega) (Bh (I4 (E1 (Fm (U9 i) 64 64) 0)) (I4 (E1 (Fm (U9 i) 64 64) 32)))
     have cO:Bk cM (w.heap.size) 269 (E4 (J7 640)):=by rw[aH];exact aY.putFar (p:=⟨w.heap.size+1,i*20,none⟩) (by show w.heap.size≠w.heap.size+1;omega) _
     have cP:Bk cM (p5) 302 (c8 (Fm (U9 i) 64 64)):=by rw[aH];exact aZ.putFar (p:=⟨w.heap.size+1,i*20,none⟩) (by show p5≠w.heap.size+1;omega) _
     have eO:Below w.heap.size w cM:=by rw[aH];exact C0 dW (by show w.heap.size≤w.heap.size+1;omega) _
     have bG:E7 dT ⟨w.heap.size+1,i*20,none⟩ 20=true:=Bk.plCan (i:=i) (aR) (Ip Ku 32 i) (by simp;try omega);have bH:(V8 (P5 (E1 (Fm (U9 i) 64 64) 0)) (P5 (E1 (Fm (U9 i) 64 64) 32))).row.length=20:=(Bh (I4 (E1 (Fm (U9 i) 64 64) 0)) (I4 (E1 (Fm (U9 i) 64 64) 32))).row;refine C3 9 (by kernel_rfl) (by rfl) (by rfl) (fun Q' hQ'=>?_);dsimp only[E5];go_wp2_with fail;rw[←aH];refine hQ' _ _ cP ?_;clear hQ' bG bH;have eP:w.heap.size+1≤cM.heap.size:=by have hz:=dX;rw[aH];simp;omega
     clear aH dW dX aY aR aZ;refine F0 (by kernel_rfl) ?_;go_wp2_with fail;go_roundw;case rel=>exact ⟨i+1,by omega,by omega,by go_num,cO,(by have h1:=cN;rw[C8r hlti]at h1;exact h1),eO,eP⟩
     case measure=>simp[intOf];omega
  ·
   obtain rfl:i=32:=by omega
   have dY:((32:Nat):Int)=32:=rfl;rw[dY];clear dY;obtain⟨cQ,aK⟩:∃z,z=C4 wr ⟨w.heap.size,0,none⟩ (E4 (Pl (Ee Fj 32 32))):=⟨_,rfl⟩;have bI:Bk cQ (w.heap.size) 269 (E4 (Pl (Ee Fj 32 32))):=by rw[aK];exact Bk.put64 (aA) ((show (J7 640).length=640 from by simp)) ((show (Pl (Ee Fj 32 32)).length=640 from by rw[X8 (Ip Ku 32 32)];simp))
   have dC:Bk cQ (w.heap.size+1) 269 (E4 (Pl (Ee Fj 32 32))):=by rw[aK];exact aB.putFar (p:=⟨w.heap.size,0,none⟩) (by show w.heap.size+1≠w.heap.size;omega) _
   have dD:Below w.heap.size w cQ:=by rw[aK];exact C0 aS (by show w.heap.size≤w.heap.size;omega) _
   have eQ:=Bk.row64 (n:=640) (aB) ((show (Pl (Ee Fj 32 32)).length=640 from by rw[X8 (Ip Ku 32 32)];simp));have bJ:E7 wr ⟨w.heap.size,0,none⟩ 640=true:=Bk.can64 (aA) ((show (J7 640).length=640 from by simp));have dF:(Pl (Ee Fj 32 32)).length=640:=(show (Pl (Ee Fj 32 32)).length=640 from by rw[X8 (Ip Ku 32 32)];simp);go_wp2_with fail;rw[←aK];clear eQ bJ dF;have eR:w.heap.size+1≤cQ.heap.size:=by have hz:=aT;rw[aK];first | (simp;omega) | (simp[World.setCell];omega)
   clear aK aT;have dG:(Pl (Ee Fj 32 32)).length=640:=(show (Pl (Ee Fj 32 32)).length=640 from by rw[X8 (Ip Ku 32 32)];simp);refine bodyPost_ret (C7 rfl _ _ _ _ _ _ rfl bI Tryz.underlying269 rfl (by simp[Zp,dG])) rfl ⟨rfl,dD⟩
end Go.Proofs.YtdfpoofbgjilgaaGreat
