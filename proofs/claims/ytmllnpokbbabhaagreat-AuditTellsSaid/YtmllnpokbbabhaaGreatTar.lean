/- A part of the proof of AuditTells. -/
import Derived.Test.YtmllnpokbbabhaaGreatTaq
set_option linter.unusedVariables false
set_option linter.unusedSimpArgs false
set_option maxRecDepth 100000
set_option maxHeartbeats 40000000
namespace Go.Proofs.YtmllnpokbbabhaaGreat
open Go Go.RowKit Sh
section
def Jz:Code→List Code
 | .seq x y=>Jz x++Jz y
 | c=>[c]
def wpL (P:Program) (Q:Exit→Act→World→Prop):List Code→Act→World→Prop
 | [],a,w=>Q .normal a w
 | c::l,a,w=>c.wp P (Exit.then (wpL P Q l) Q) a w
section
variable {P : Program} {Q Q' : Exit → Act → World → Prop} {K : Act → World → Prop}
theorem A7s {K K':Act→World→Prop} (hk:∀a w,K a w→K' a w) (hq:∀e a w,Q e a w→Q' e a w):∀e a w,Exit.then K Q e a w→Exit.then K' Q' e a w:=by
 intro e a w h;cases e with
 | normal=>exact hk a w h
 | _=>exact hq _ a w h
theorem B1p (hq:∀e a w,Q e a w→Q' e a w):∀(l:List Code) (a:Act) (w:World),wpL P Q l a w→wpL P Q' l a w
 | [],a,w,h=>hq _ _ _ h
 | c::l,a,w,h=>wp_mono h (A7s (B1p hq l) hq)
theorem Vd:∀(l m:List Code) (a:Act) (w:World),wpL P (Exit.then (wpL P Q m) Q) l a w↔wpL P Q (l++m) a w
 | [],m,a,w=>Iff.rfl
 | c::l,m,a,w=>by
  constructor
  ·intro h;refine wp_mono h fun e a w h=>?_;cases e with
   | normal=>exact (Vd l m a w).1 h
   | _=>exact h
  ·intro h;refine wp_mono h fun e a w h=>?_;cases e with
   | normal=>exact (Vd l m a w).2 h
   | _=>exact h
theorem Vi:∀ {c:Code} {Q:Exit→Act→World→Prop} {a:Act} {w:World},wpL P Q (Jz c) a w→c.wp P Q a w:=by
 intro c;have aA:∀(c:Code) (Q:Exit→Act→World→Prop) (a:Act) (w:World),wpL P Q [c] a w→c.wp P Q a w:=fun c Q a w h=>wp_mono h fun e a w h=>by
  cases e with
  | _=>exact h
 induction c with
 | seq x y ihx ihy=>
  intro Q a w h;refine wp_seq (ihx (B1p (A7s (fun a w h=>ihy h) fun _ _ _ h=>h) _ _ _ ((Vd _ _ _ _).2 h)))
 | _=>intro Q a w h;exact aA _ _ _ _ h
end
def C7q (P:Program) (g:Cfg) (ρ:List Av) (n:Nat):List Code→St→Nat→Option Out
 | [],s,na=>some (.nrm,s,na,[])
 | c::l,s,na=>match A4l P g ρ n c s na with
  | some (.nrm,s1,n1,q1)=>match C7q P g ρ n l s1 n1 with
   | some (k,s2,n2,q2)=>some (k,s2,n2,q1++q2)
   | none=>none
  | r=>r
def Sg.lt (m:Nat):Sg→Bool
 | .m n _=>decide (n<m)
 | _=>true
def SV.lt (m:Nat):SV→Bool
 | .v _ l=>l.all (·.lt m)
 | .tup l=>l.all fun x=>x.2.all (·.lt m)
 | .any=>true
def St.lt (s:St) (m:Nat):Bool:=s.σ.all (·.lt m)&&s.h.all fun b=>match b with
 | some x=>x.2.all (·.lt m)
 | none=>true
theorem B8a {ρ r:List Av} {μ:Nat→Nm} {s:Sg} (h:s.lt ρ.length=true):s.cells (ρ++r) μ=s.cells ρ μ:=by
 cases s with
 | m n k=>show A7y (ρ++r) n k=A7y ρ n k;unfold A7y;rw[List.getElem?_append_left (of_decide_eq_true h)]
 | _=>rfl
theorem Jo {ρ r:List Av} {μ:Nat→Nm}:∀ {l:List Sg},l.all (·.lt ρ.length)=true→cellsL (ρ++r) μ l=cellsL ρ μ l
 | [],_=>rfl
 | s::l,h=>by
  rw[List.all_cons,Bool.and_eq_true]at h;rw[N6,N6,B8a h.1,Jo h.2]
theorem D0d {ρ r:List Av} {μ:Nat→Nm} {x:SV} (h:x.lt ρ.length=true):x.val (ρ++r) μ=x.val ρ μ:=by
 cases x with
 | v a l=>show cv (ρ++r) μ a l=cv ρ μ a l;unfold cv;rw[Jo h]
 | tup l=>
  have:(l.map fun x=>cv (ρ++r) μ x.1 x.2)=l.map fun x=>cv ρ μ x.1 x.2:=List.map_congr_left fun y hy=>by
   have:=List.all_eq_true.1 h y hy;unfold cv;rw[Jo this]
  exact congrArg (fun l=>Value.tuple l.toArray) this
 | any=>rfl
def D0a (like s:St) (ρ:List Av) (μ:Nat→Nm):List (Option Value):=(List.range like.σ.length).map fun t=>match like.σ[t]?,s.σ[t]? with
 | some x,some y=>if x.known=true then if y.known=true then some (y.val ρ μ) else none else some undef
 | _,_=>none
def B2d (like s:St) (ρ:List Av) (μ:Nat→Nm):List (Option (TypeId×List Value)):=(List.range like.h.length).map fun b=>match like.blk b with
 | some _=>(s.blk b).map fun x=>(x.1,cellsL ρ μ x.2)
 | none=>none
def A0r (s0 s1 s2:St):Bool:=s2.σ.length==s1.σ.length&&(s2.dy.isEmpty&&(decide (s0.h.length≤s2.h.length)&&(decide (s2.h.length≤s1.h.length)&&(s2.σ.all (·.okn fun b=>decide (b<s2.h.length))&&(s2.h.all (fun b=>match b with
 | some x=>x.2.all (·.okn fun b=>decide (b<s2.h.length))
 | none=>true)&&(List.range s2.σ.length).all fun t=>match s2.σ[t]?,s1.σ[t]? with
 | some x,some y=>!x.known||y.known
 | _,_=>false)))))
theorem C7b {s0 s1 s2:St} (h:A0r s0 s1 s2=true):s2.dy.isEmpty=true:=by
 unfold A0r at h;simp only[Bool.and_eq_true]at h;exact h.2.1
section
variable {P : Program} {g : Cfg} {S : World → Prop} {Φ : Fcts} {ρ ρ' ρ1 ρ2 : List Av} {s s' s1 s2 : St}
theorem Rel.more {μ:Nat→Nm} {a:Act} {w:World} (hR:Rel ρ Φ S s μ a w) (r:List Av) (h:s.lt ρ.length=true):Rel (ρ++r) Φ S s μ a w:=by
 unfold St.lt at h;rw[Bool.and_eq_true]at h;refine { hR with tm:=fun t x hx hk=>(hR.tm t x hx hk).trans (D0d (List.all_eq_true.1 h.1 x (List.mem_of_getElem? hx))).symm,bl:=fun b T cs hb=>?_ };have h1:s.h[b]?=some (some (T,cs)):=by
  unfold St.blk at hb;cases h2:s.h[b]? with
  | none=>rw[h2]at hb;cases hb
  | some y=>rw[h2]at hb;simp at hb;rw[hb]
 have h2:=List.all_eq_true.1 h.2 _ (List.mem_of_getElem? h1);rw[Jo h2];exact hR.bl b T cs hb
theorem Rel.seen {s0:St} {μ:Nat→Nm} {a:Act} {w:World} (hR:Rel ρ1 Φ S s1 μ a w) (hb:A0r s0 s1 s2=true) (ht:D0a s2 s1 ρ1 μ=D0a s2 s2 ρ2 μ) (hh:B2d s2 s1 ρ1 μ=B2d s2 s2 ρ2 μ):Rel ρ2 Φ S s2 μ a w:=by
 unfold A0r at hb;simp only[Bool.and_eq_true,beq_iff_eq,decide_eq_true_eq]at hb;obtain⟨b1,b2,b3,b4,b5,b6,b7⟩:=hb;have blk:∀b T cs,s2.blk b=some (T,cs)→∃aA,s1.blk b=some (T,aA)∧cellsL ρ2 μ cs=cellsL ρ1 μ aA:=by
  intro b T cs h;have aB:=Wy (s:=s2) (b:=b) (by rw[h];rfl);have h1:=congrArg (fun l=>l[b]?) hh;simp only[B2d,List.getElem?_map,List.getElem?_range aB,Option.map_some,h,Option.some.injEq]at h1;cases h2:s1.blk b with
  | none=>rw[h2]at h1;cases h1
  | some x=>
   rw[h2]at h1;simp only[Option.map_some,Option.some.injEq,Prod.mk.injEq]at h1;obtain⟨T',aA⟩:=x;obtain⟨e1,e2⟩:=h1;dsimp only at e1 e2;subst e1;exact ⟨aA,rfl,e2.symm⟩
 have aC:∀b,(s2.blk b).isSome=true→(s1.blk b).isSome=true:=fun b h=>by
  obtain⟨⟨T,cs⟩,h1⟩:=Option.isSome_iff_exists.1 h;obtain⟨aA,h2,_⟩:=blk b T cs h1;rw[h2];rfl
 refine ⟨hR.size.trans b1.symm,hR.df,fun t x hx hk=>?_,fun b T cs h=>?_,fun b b' h h'=>hR.inj b b' (aC b h) (aC b' h'),fun t x hx=>List.all_eq_true.1 b5 x (List.mem_of_getElem? hx),fun b T cs h=>?_,fun n hn=>?_,fun n hn=>?_,fun W hW=>hR.sk W ⟨hW.os,hW.tape,hW.output,hW.size,fun k hk h=>hW.block k hk fun b hb=>h b (aC b hb)⟩⟩
 ·have aB:=(List.getElem?_eq_some_iff.1 hx).1;have h1:=congrArg (fun l=>l[t]?) ht;simp only[D0a,List.getElem?_map,List.getElem?_range aB,Option.map_some,hx,Option.some.injEq]at h1;have h2:t<s1.σ.length:=by omega
  obtain⟨y,hy⟩:∃y,s1.σ[t]?=some y:=⟨_,List.getElem?_eq_getElem h2⟩;rw[hy]at h1;simp only[hk,if_true]at h1;by_cases hyk:y.known=true
  ·rw[if_pos hyk]at h1;injection h1 with h1;rw[hR.tm t y hy hyk];exact h1
  ·rw[if_neg hyk]at h1;cases h1
 ·obtain⟨aA,h1,h2⟩:=blk b T cs h;rw[h2];exact hR.bl b T aA h1
 ·have hh:s2.h[b]?=some (some (T,cs)):=by
   unfold St.blk at h;cases h2:s2.h[b]? with
   | none=>rw[h2]at h;cases h
   | some y=>rw[h2]at h;simp at h;rw[h]
  exact List.all_eq_true.1 b6 _ (List.mem_of_getElem? hh)
 ·rw[List.isEmpty_iff.1 b2]at hn;cases hn
 ·rw[List.isEmpty_iff.1 b2]at hn;cases hn
theorem Goes.seen {s0:St} {μ μ':Nat→Nm} {w w':World} (h:Goes s0 μ w s1 μ' w') (hb:A0r s0 s1 s2=true) (hh:B2d s2 s1 ρ1 μ'=B2d s2 s2 ρ2 μ'):Goes s0 μ w s2 μ' w':=by
 have aA:∀b,(s2.blk b).isSome=true→(s1.blk b).isSome=true:=fun b h=>by
  have aB:=Wy h;obtain⟨x,h3⟩:=Option.isSome_iff_exists.1 h;have h1:=congrArg (fun l=>l[b]?) hh;simp only[B2d,List.getElem?_map,List.getElem?_range aB,Option.map_some,h3,Option.some.injEq]at h1;cases h2:s1.blk b with
  | none=>rw[h2]at h1;cases h1
  | some x=>rfl
 unfold A0r at hb;simp only[Bool.and_eq_true,beq_iff_eq,decide_eq_true_eq]at hb;exact ⟨h.kp,hb.2.2.1,h.old,fun b h1 h2=>h.new b (aA b h1) h2,fun b h1 h2=>h.ini b (aA b h1) h2⟩
theorem Rel.free {Φ':Fcts} {μ:Nat→Nm} {a:Act} {w:World} (hR:Rel ρ Φ S s μ a w) (h:s.dy.isEmpty=true):Rel ρ Φ' S s μ a w:=
 { hR with fx:=fun n hn=>(by rw[List.isEmpty_iff.1 h]at hn;cases hn),dl:=fun n hn=>(by rw[List.isEmpty_iff.1 h]at hn;cases hn) }
def Go (P:Program) (S:World→Prop) (ρ:List Av) (s:St) (l:List Code) (ρ':List Av) (s':St) (k:XK):Prop:=
 ∀(μ:Nat→Nm) (a:Act) (w:World) (Q:Exit→Act→World→Prop),Rel ρ noF S s μ a w→
  (∀μ' a' w',Rel ρ' noF S s' μ' a' w'→Goes s μ w s' μ' w'→Q k.ex a' w')→wpL P Q l a w
theorem Go.app {l m:List Code} {k:XK} (h1:Go P S ρ s l ρ1 s1 .nrm) (h2:Go P S ρ1 s1 m ρ2 s2 k):Go P S ρ s (l++m) ρ2 s2 k:=fun μ a w Q hR hQ=>
 (Vd _ _ _ _).1 (h1 μ a w _ hR fun μ' a' w' hR' hG=>h2 μ' a' w' Q hR' fun μ2 a2 w2 hR2 hG2=>hQ _ _ _ hR2 (hG.trans hG2))
theorem A7a {ρs:Nat→List Av} {b:Code} {k:XK} (hk:k≠.nrm) {Q:Exit→Act→World→Prop}:∀(n i:Nat),(∀j,i≤j→j<i+n→Go P S (ρs j) s (Jz b) (ρs (j+1)) s .nrm)→Go P S (ρs (i+n)) s (Jz b) ρ' s' k→
 ∀(μ:Nat→Nm) (a:Act) (w:World),Rel (ρs i) noF S s μ a w→(∀μ' a' w',Rel ρ' noF S s' μ' a' w'→Goes s μ w s' μ' w'→Q k.ex a' w')→Code.rounds P b Q (n+1) a w
 | 0,i,_,he,μ,a,w,hR,hQ=>by
  rw[rounds_succ];refine Vi (he μ a w _ hR fun μ' a' w' hR' hG=>?_);have:=hQ μ' a' w' hR' hG;cases k with
  | nrm=>exact absurd rfl hk
  | ext id=>exact this
  | ret=>exact this
 | n+1,i,hr,he,μ,a,w,hR,hQ=>by
  rw[rounds_succ];refine Vi (hr i (Nat.le_refl _) (by omega) μ a w _ hR fun μ' a' w' hR' hG=>?_);show Code.rounds P b Q (n+1) a' w';exact A7a hk n (i+1) (fun j h1 h2=>hr j (by omega) (by omega)) (by rw[show i+1+n=i+(n+1) by omega];exact he) μ' a' w' hR' fun μ2 a2 w2 hR2 hG2=>hQ μ2 a2 w2 hR2 (hG.trans hG2)
theorem Go.loop {id n:Nat} {b:Code} (ρs:Nat→List Av) (hr:∀i,i<n→Go P S (ρs i) s (Jz b) (ρs (i+1)) s .nrm) (he:Go P S (ρs n) s (Jz b) ρ' s' (.ext id)):Go P S (ρs 0) s [.block id (.loop b)] ρ' s' .nrm:=by
 intro μ a w Q hR hQ;refine wp_block (wp_loop_rounds (n+1) (A7a (ρs:=ρs) (k:=.ext id) (fun e=>by cases e) n 0 (fun j _ h=>hr j (by omega)) (by rw[Nat.zero_add];exact he) μ a w hR fun μ' a' w' hR' hG=>?_));show Exit.inBlock id _ (.exit id) a' w';unfold Exit.inBlock;simp only[if_true];exact hQ μ' a' w' hR' hG
theorem Tv (hm:P.follows .mixedOrders=true) (n:Nat):∀(l:List Code) (s:St) (na:Nat) (o:Out),C7q P g ρ n l s na=some o→(∀q∈o.2.2.2,q.Ok P ρ g.f S)→∀(μ:Nat→Nm) (a:Act) (w:World) (Q:Exit→Act→World→Prop),Rel ρ g.f S s μ a w→(∀μ' a' w',Rel ρ g.f S o.2.1 μ' a' w'→Goes s μ w o.2.1 μ' w'→Q o.1.ex a' w')→wpL P Q l a w
 | [],s,na,o,h,hq=>by cases h;exact fun μ a w Q hR hQ=>hQ μ a w hR (Goes.refl _ _ _)
 | c::l,s,na,o,h,hq=>by
  intro μ a w Q hR hQ;simp only[C7q]at h;split at h
  ·rename_i s1 n1 q1 h1
   split at h
   ·rename_i k s2 n2 q2 h2
    cases h;refine Ay hm n c s na _ h1 (fun q hmq=>hq q (by simp[hmq])) μ a w _ hR fun μ' a' w' hR' hG=>?_;exact Tv hm n l s1 n1 _ h2 (fun q hmq=>hq q (by simp[hmq])) μ' a' w' Q hR' fun μ2 a2 w2 hR2 hG2=>hQ μ2 a2 w2 hR2 (hG.trans hG2)
   ·cases h
  ·rename_i hne
   obtain⟨k,s1,n1,q1⟩:=o;refine Ay hm n c s na _ h hq μ a w _ hR fun μ' a' w' hR' hG=>?_;cases k with
   | nrm=>exact absurd h (hne s1 n1 q1)
   | ext id=>exact hQ μ' a' w' hR' hG
   | ret=>exact hQ μ' a' w' hR' hG
def goE (P:Program) (g:Cfg) (fuel:Nat) (ρ r:List Av) (l:List Code) (s s2:St):Option (XK×List Eqn×((Nat→Nm)→List (Option Value))×((Nat→Nm)→List (Option (TypeId×List Value)))×Bool):=
 match C7q P g (ρ++r) fuel l s ρ.length with
 | some (k,s1,_,qs)=>some (k,qs.map (Rq.eqn (ρ++r) g.f),D0a s2 s1 (ρ++r),B2d s2 s1 (ρ++r),s.lt ρ.length&&(s.dy.isEmpty&&A0r s s1 s2))
 | none=>none
theorem Go.run {l:List Code} {k:XK} (fuel:Nat) (ds:List (DC P g.f S)) (hm:P.follows .mixedOrders=true)
 (h:goE P g fuel ρ (ds.flatMap (·.res)) l s s2=some (k,ds.map (·.e),D0a s2 s2 ρ2,B2d s2 s2 ρ2,true)):Go P S ρ s l ρ2 s2 k:=by
 intro μ a w Q hR hQ;unfold goE at h;split at h
 ·rename_i k' s1 na' qs hrun
  simp only[Option.some.injEq,Prod.mk.injEq,Bool.and_eq_true]at h;obtain⟨rfl,he,ht,hb,hl,hd,hs⟩:=h;refine Tv (ρ:=ρ++ds.flatMap (·.res)) hm fuel l s ρ.length _ hrun (fun q hq=>?_) μ a w Q ((hR.free hd).more _ hl) fun μ' a' w' hR' hG=>?_
  ·have h1:q.eqn (ρ++ds.flatMap (·.res)) g.f∈ds.map (·.e):=by rw[←he];exact List.mem_map_of_mem hq
   obtain⟨d,_,h2⟩:=List.mem_map.1 h1;unfold Rq.Ok;rw[←h2];exact d.ok
  ·exact hQ μ' a' w' ((hR'.seen hs (congrFun ht μ') (congrFun hb μ')).free (C7b hs)) (hG.seen hs (congrFun hb μ'))
 ·cases h
def D4k (n m:Nat) (σ:List (Nat×SV)) (h:List (Nat×TypeId×List Sg)):St:=
 ⟨(List.range n).map fun t=>((σ.find? fun x=>x.1==t).map (·.2)).getD .any,(List.range m).map fun b=>(h.find? fun x=>x.1==b).map (·.2),[]⟩
def B6u (P:Program) (g:Cfg) (fn:Func) (ρ:List Av):Option (Array Value×St×Nat):=(Ja P g 0 fn.params.toList).map fun x=>((x.1.map fun x=>cv ρ nm0 x.1 x.2).toArray,Na (x.1.map fun x=>.v x.1 x.2) fn.ntmps,x.2)
def B8l (P:Program) (g:Cfg) (fn:Func) (ρ:List Av):St:=((B6u P g fn ρ).map (·.2.1)).getD ⟨[],[],[]⟩
def Fi:List Code→Option (List Code×Nat×Code×List Code)
 | []=>none
 | .block id (.loop b)::l=>some ([],id,b,l)
 | c::l=>(Fi l).map fun x=>(c::x.1,x.2)
def Yu (fn:Func):List Code:=match fn.body with
 | some c=>Jz c
 | none=>[]
def A4g (fn:Func):List Code×Nat×Code×List Code:=(Fi (Yu fn)).getD ([],0,.skip,[])
theorem A6h:∀ {l:List Code} {x:List Code×Nat×Code×List Code},Fi l=some x→l=x.1++([.block x.2.1 (.loop x.2.2.1)]++x.2.2.2):=by
 intro l;induction l with
 | nil=>intro x h;cases h
 | cons c l ih=>
  intro x h;unfold Fi at h;split at h
  ·rename_i h1;cases h1
  ·rename_i h1;cases h1;cases h;rfl
  ·rename_i h1
   cases h1;cases h2:Fi l with
   | none=>rw[h2]at h;cases h
   | some y=>rw[h2]at h;cases h;exact congrArg (c :: ·) (ih h2)
def Qi:List Code→Option (List Code×Nat×Code×List Code)
 | []=>none
 | .block id b::l=>some ([],id,b,l)
 | c::l=>(Qi l).map fun x=>(c::x.1,x.2)
def A1t (l:List Code):List Code×Nat×Code×List Code:=(Qi l).getD ([],0,.skip,[])
def Tb (l:List Code):List Code×Nat×Code×List Code:=(Fi l).getD ([],0,.skip,[])
theorem C6b:∀ {l:List Code} {x:List Code×Nat×Code×List Code},Qi l=some x→l=x.1++([.block x.2.1 x.2.2.1]++x.2.2.2):=by
 intro l;induction l with
 | nil=>intro x h;cases h
 | cons c l ih=>
  intro x h;unfold Qi at h;split at h
  ·rename_i h1;cases h1
  ·rename_i h1;cases h1;cases h;rfl
  ·rename_i h1
   cases h1;cases h2:Qi l with
   | none=>rw[h2]at h;cases h
   | some y=>rw[h2]at h;cases h;exact congrArg (c :: ·) (ih h2)
theorem Go.blk {l:List Code} {k:XK} (hs:(Qi l).isSome=true) (h1:Go P S ρ s (A1t l).1 ρ1 s1 .nrm) (h2:Go P S ρ1 s1 (Jz (A1t l).2.2.1) ρ2 s2 .nrm) (h3:Go P S ρ2 s2 (A1t l).2.2.2 ρ' s' k):Go P S ρ s l ρ' s' k:=by
 have e:Qi l=some (A1t l):=by
  unfold A1t;cases h:Qi l with
  | none=>rw[h]at hs;cases hs
  | some x=>rfl
 rw[C6b e];refine h1.app (Go.app (ρ1:=ρ2) (s1:=s2) (fun μ a w Q hR hQ=>?_) h3);exact wp_block (Vi (h2 μ a w _ hR fun μ' a' w' hR' hG=>hQ μ' a' w' hR' hG))
theorem Go.lp {l:List Code} {k:XK} {n:Nat} (ρs:Nat→List Av) (hs:(Fi l).isSome=true) (h1:Go P S ρ s (Tb l).1 (ρs 0) s1 .nrm) (hr:∀i,i<n→Go P S (ρs i) s1 (Jz (Tb l).2.2.1) (ρs (i+1)) s1 .nrm) (hx:Go P S (ρs n) s1 (Jz (Tb l).2.2.1) ρ2 s2 (.ext (Tb l).2.1)) (h3:Go P S ρ2 s2 (Tb l).2.2.2 ρ' s' k):Go P S ρ s l ρ' s' k:=by
 have e:Fi l=some (Tb l):=by
  unfold Tb;cases h:Fi l with
  | none=>rw[h]at hs;cases hs
  | some x=>rfl
 rw[A6h e];exact h1.app (Go.app (Go.loop ρs hr hx) h3)
def E4e (P:Program) (g:Cfg) (fuel:Nat) (fn:Func) (ρ r:List Av) (l:List Code) (s:St):Option (List Eqn×((Nat→Nm)→Value)×Bool):=
 match C7q P g (ρ++r) fuel l s ρ.length with
 | some (k,s1,_,qs)=>(C5a P s1 fn.results.toList).map fun x=>(qs.map (Rq.eqn (ρ++r) g.f),(fun μ=>x.val (ρ++r) μ),(match k with
  | .ext _=>false
  | _=>true)&&(s.lt ρ.length&&s.dy.isEmpty))
 | none=>none
theorem B0f {f:Nat} {fn:Func} {args:Array Value} {v:Value} {ρ0:List Av} {w:World} (fuel n:Nat) (s:St) (ρs:Nat→List Av) (de:List (DC P g.f (fun W=>Below w.heap.size w W))) (hm:P.follows .mixedOrders=true) (hf:P.funcs[f]?=some fn)
 (h0:(B6u P g fn ρ0).map (fun x=>(x.1,(Fi (Yu fn)).isSome))=some (args,true))
 (hp:Go P (fun W=>Below w.heap.size w W) ρ0 (B8l P g fn ρ0) (A4g fn).1 (ρs 0) s .nrm)
 (hr:∀i,i<n→Go P (fun W=>Below w.heap.size w W) (ρs i) s (Jz (A4g fn).2.2.1) (ρs (i+1)) s .nrm)
 (hx:Go P (fun W=>Below w.heap.size w W) (ρs n) s (Jz (A4g fn).2.2.1) (ρs n) s (.ext (A4g fn).2.1))
 (he:E4e P g fuel fn (ρs n) (de.flatMap (·.res)) (A4g fn).2.2.2 s=some (de.map (·.e),fun _=>v,true)):Calls P f args w fun e w'=>e=.returned v∧Below w.heap.size w w':=by
 have aE:∃ps na,Ja P g 0 fn.params.toList=some (ps,na)∧(ps.map fun x=>cv ρ0 nm0 x.1 x.2).toArray=args∧(Fi (Yu fn)).isSome=true∧B8l P g fn ρ0=Na (ps.map fun x=>.v x.1 x.2) fn.ntmps:=by
  unfold B8l;unfold B6u at h0 ⊢;cases h:Ja P g 0 fn.params.toList with
  | none=>rw[h]at h0;cases h0
  | some x=>rw[h]at h0;simp only[Option.map_some,Option.some.injEq,Prod.mk.injEq]at h0;exact ⟨x.1,x.2,rfl,h0.1,h0.2,rfl⟩
 obtain⟨ps,na,aF,ha,hs,aG⟩:=aE;rw[aG]at hp;have aB:Fi (Yu fn)=some (A4g fn):=by
  unfold A4g;cases h:Fi (Yu fn) with
  | none=>rw[h]at hs;cases hs
  | some x=>rfl
 have aD:=A6h aB;obtain⟨c,hc⟩:∃c,fn.body=some c:=by
  cases h:fn.body with
  | none=>unfold Yu at aB;rw[h]at aB;cases aB
  | some c=>exact ⟨c,rfl⟩
 have aH:Yu fn=Jz c:=by unfold Yu;rw[hc]
 rw[aH]at aD;have aC:=hp.app (Go.loop ρs hr hx);unfold E4e at he;split at he
 ·rename_i k s1 na1 qs hrun
  cases hres:C5a P s1 fn.results.toList with
  | none=>rw[hres]at he;cases he
  | some r=>
   rw[hres]at he;simp only[Option.map_some,Option.some.injEq,Prod.mk.injEq,Bool.and_eq_true]at he;obtain⟨he,hv,hk,hl,hd⟩:=he;subst ha;refine calls_of_wp hf hc (Vi ?_);rw[aD,←List.append_assoc];refine (Vd _ _ _ _).1 (aC nm0 _ w _ (A6l (Uk aF (fun _=>false)) w) fun μ a w' hR hG=>?_);refine Tv (ρ:=ρs n++de.flatMap (·.res)) hm fuel _ s (ρs n).length _ hrun (fun q hq=>?_) μ a w' _ ((hR.free hd).more _ hl) fun μ' a' w2 hR' hG'=>?_
   ·have h1:q.eqn (ρs n++de.flatMap (·.res)) g.f∈de.map (·.e):=by rw[←he];exact List.mem_map_of_mem hq
    obtain⟨d,_,h2⟩:=List.mem_map.1 h1;unfold Rq.Ok;rw[←h2];exact d.ok
   ·have h1:=B2f (fn:=fn) hR' hres;have aA:=hG.trans hG';have h3:Below w.heap.size w w2:=⟨aA.kp.os,aA.kp.tape,aA.kp.output,aA.kp.size,fun k hk=>aA.kp.block k hk fun b hb=>by cases hb⟩;rw[show r.val (ρs n++de.flatMap (·.res)) μ'=v from congrFun hv μ']at h1;cases k with
    | ext id=>cases hk
    | nrm=>exact ⟨hR'.df,_,h1,rfl,h3⟩
    | ret=>exact ⟨hR'.df,_,h1,rfl,h3⟩
 ·cases he
end
end
section
def fIx (l:List (Nat×Nat×Nat)):Fcts:=⟨fun n=>match l.find? (·.1==n) with
 | some x=>[x.2.1]
 | none=>[],fun n ms _=>match l.find? (·.1==n),ms with
 | some x,[a,b]=>a.v=.pointer (some ⟨b.b,x.2.2,none⟩)
 | _,_=>True⟩
def Cfg.ix (g:Cfg) (l:List (Nat×Nat×Nat)):Cfg:=⟨g.cut,g.dyn,fIx l⟩
section
variable {Φ : Fcts} {S : World → Prop}
def dGe {x y:Int} {b:Bool} (h:decide (y≤x)=b):DC Tryz.prog Φ S:=Vx (op:=.geq) (t:=3) (x:=.int .i64 x) (y:=.int .i64 y) (v:=.bool b) (fun X Y W=>by rw[←h];rfl) rfl
def C6s (x y:Int) (h:IntKind.i64.wrap (x-y)=x-y):DC Tryz.prog Φ S:=Vx (op:=.sub) (t:=3) (x:=.int .i64 x) (y:=.int .i64 y) (v:=.int .i64 (x-y)) (fun X Y W=>by
 have:(binOp .sub 3 (.int .i64 x) (.int .i64 y):Sem Value)=Op.intArith .sub .i64 x y:=rfl;show (do eqGuard .sub 3 X Y (.int .i64 x) (.int .i64 y);binOp .sub 3 (.int .i64 x) (.int .i64 y):Sem Value).run Tryz.prog W=_;rw[this];show Result.ok (Value.int .i64 (IntKind.i64.wrap (x-y))) W=_;rw[h]) rfl
theorem B2o (x:Int) (h : -64≤x) (h':x<128):IntKind.i64.wrap x=x:=IntWalk.i64_in _ (by omega)
def E5x {x y:Int} {b:Bool} (h:decide (x<y)=b):DC Tryz.prog Φ S:=Vx (op:=.lss) (t:=3) (x:=.int .i64 x) (y:=.int .i64 y) (v:=.bool b) (fun X Y W=>by rw[←h];rfl) rfl
def D7y (x y:Int) (h:IntKind.i64.wrap (x+y)=x+y):DC Tryz.prog Φ S:=Vx (op:=.add) (t:=3) (x:=.int .i64 x) (y:=.int .i64 y) (v:=.int .i64 (x+y)) (fun X Y W=>by
 have:(binOp .add 3 (.int .i64 x) (.int .i64 y):Sem Value)=Op.intArith .add .i64 x y:=rfl;show (do eqGuard .add 3 X Y (.int .i64 x) (.int .i64 y);binOp .add 3 (.int .i64 x) (.int .i64 y):Sem Value).run Tryz.prog W=_;rw[this];show Result.ok (Value.int .i64 (IntKind.i64.wrap (x+y))) W=_;rw[h]) rfl
def dIx {A e T len:TypeId} {cs:List Value} (n b k z:Nat) (kk:IntKind) (hu:Tryz.prog.underlying A=some (.array len e)) (hz:Iy Tryz.prog e=some z) (hk:k<len) (hn:b≠n) (hsup:Φ.sup n=[b]) (hp:∀a c W,Φ.p n [a,c] W=(a.v=.pointer (some ⟨c.b,k*z,none⟩))):DC Tryz.prog Φ S:=
 ⟨.sem (fun μ=>Instr.indexAt A (.pointer (some ⟨(μ b).b,0,none⟩)) (.int kk (k:Int))) (fun μ=>(μ n).v) (some n) (fun μ W=>Bk W (μ b).b T cs∧True),fun μ W _ _=>⟨⟨0,.pointer (some ⟨(μ b).b,k*z,none⟩),rfl⟩,by
  show (Instr.indexAt A (.pointer (some ⟨(μ b).b,0,none⟩)) (.int kk (k:Int))).run _ W=_;rw[Yy hu hz hk];simp[Zp],fun W'' _ _ _=>by
  show Φ.p n ((n::Φ.sup n).map _) W'';rw[hsup];show Φ.p n [_,_] W'';rw[hp];simp[Zp,hn]⟩,[]⟩
theorem A6x {w:World} {b T i:Nat} {ps:List Pn} (h:Ez ps) (hi:i<ps.length) (K:Bk w b T (E4 (Pl ps))):(Instr.loadAt 182 (.pointer (some ⟨b,i*20,none⟩))).run Tryz.prog w=.ok (Eh ps i).val w:=by
 rw[←Pn.seg];have hr:=K.plAt h hi;obtain⟨hl,hc⟩:=T5.1 hr;exact run_loadAt_mid (P:=Tryz.prog) w b (i*20) 182 (E4 (Eh ps i).row) _ hc A5u rfl (by rw[hl];exact C0u)
def dLx {T:TypeId} {ps:List Pn} (n b k:Nat) (h:Ez ps) (hk:k<ps.length) (hsup:Φ.sup n=[b]) (hp:∀a c W,Φ.p n [a,c] W=(a.v=.pointer (some ⟨c.b,k*20,none⟩))):DC Tryz.prog Φ S:=
 ⟨.sem (fun μ=>Instr.loadAt 182 (μ n).v) (fun _=>(Eh ps k).val) none (fun μ W=>Bk W (μ b).b T (E4 (Pl ps))∧(Φ.at n μ W∧True)),fun μ W _ hh=>by
  have h1:Φ.p n ((n::Φ.sup n).map μ) W:=hh.2.1;rw[hsup]at h1;replace h1:Φ.p n [μ n,μ b] W:=h1;rw[hp]at h1;show (Instr.loadAt 182 (μ n).v).run _ W=_;rw[h1];exact A6x h hk hh.1,(Eh ps k).av (h.at k)⟩
def dLd {T:TypeId} {ps:List Pn} (b:Nat) (h:Ez ps) (hk:0<ps.length):DC Tryz.prog Φ S:=
 ⟨.sem (fun μ=>Instr.loadAt 182 (.pointer (some ⟨(μ b).b,0,none⟩))) (fun _=>(Eh ps 0).val) none (fun μ W=>Bk W (μ b).b T (E4 (Pl ps))∧True),fun μ W _ hh=>by
  have:=A6x (i:=0) h hk hh.1;rw[Nat.zero_mul]at this;exact this,(Eh ps 0).av (h.at 0)⟩
def dPl {f:FuncId} {args:Array Value} {ps:List Pn} (h:∀W,Calls Tryz.prog f args W fun e W'=>e=.returned (H7 (Pl ps))∧Below W.heap.size W W') (ho:Ez ps) (k:Nat) (hk:ps.length*20=k):DC Tryz.prog Φ S:=dR k h (by rw[Z3 ho,hk])
def dL8 {T:TypeId} {l:List UInt8} (n b k:Nat) (hk:k<l.length) (hsup:Φ.sup n=[b]) (hp:∀a c W,Φ.p n [a,c] W=(a.v=.pointer (some ⟨c.b,k*1,none⟩))):DC Tryz.prog Φ S:=
 ⟨.sem (fun μ=>Instr.loadAt 5 (μ n).v) (fun _=>.int .u8 (n8 (g8 l k))) none (fun μ W=>Bk W (μ b).b T (c8 l)∧(Φ.at n μ W∧True)),fun μ W _ hh=>by
  have h1:Φ.p n ((n::Φ.sup n).map μ) W:=hh.2.1;rw[hsup]at h1;replace h1:Φ.p n [μ n,μ b] W:=h1;rw[hp]at h1;show (Instr.loadAt 5 (μ n).v).run _ W=_;rw[h1,Nat.mul_one];exact Yr (by kernel_rfl) (by rw[hh.1.cell];simp[c8,g8,List.getD_eq_getElem?_getD,hk];rfl),[Km [g8 l k] 1 rfl]⟩
end
end
section
def Zn:Nat→Pn→Pn
 | 0,p=>p
 | q+1,p=>Qb (Zn q p)
theorem Qx {p:Pn} (hp:p.Ok):∀q,(Zn q p).Ok
 | 0=>hp
 | q+1=>Zt _
def Wb (n:List UInt8) (p:Pn) (m:List UInt8):Nat→Pn
 | 0=>Eh (Bo Z1 X3) 0
 | i+1=>Gq (Gq (Zn 4 (Wb n p m i)) (Eh (Bo Z1 X3) (dg n (63-i))) X3) (Eh (Bo p X3) (dg m (63-i))) X3
theorem A2i (n:List UInt8) (p:Pn) (m:List UInt8):∀i,(Wb n p m i).Ok
 | 0=>(Px Q7 X3).at 0
 | i+1=>Di _ _ _
def B1i (n:List UInt8) (p:Pn) (m:List UInt8):Pn:=Wb n p m 64
theorem B4m (n:List UInt8) (p:Pn) (m:List UInt8):(B1i n p m).Ok:=A2i _ _ _ _
def B1n:Nat→Pn→Pn
 | 0,p=>p
 | q+1,p=>C6r (B1n q p) (B1n q p)
theorem B7c (p:Pn) (k:List UInt64) (hp:p.Ok) (hk:k.length=5) (w:World):Calls Tryz.prog 147 #[p.val,H7 k] w fun e w'=>e=.returned (H7 (Pl (Bo p k)))∧Below w.heap.size w w':=by
 rw[←Pn.seg];exact D3c p k hp hk w
set_option maxRecDepth 100000
def E3r:St:=D4k 46 22 [(3,.v false [.p 0 0]),(5,.v false [.p 2 0]),(6,.v false [.p 3 0]),(7,.v false [.p 5 0]),(8,.v false [.p 13 0]),(9,.v false [.p 14 0]),(10,.v false [.p 19 0]),(11,.v false [.m 9 1])] [(0,40,[.m 0 32]),(2,40,[.m 1 32]),(3,182,List.replicate 20 (.c (.int .u64 0))),(5,180,[.m 2 5]),(13,240,[.m 3 320]),(14,240,[.m 4 320]),(19,182,[.m 5 5,.m 6 5,.m 7 5,.m 8 5])]
theorem D1g (n:List UInt8) (p:Pn) (mm:List UInt8) (hn:n.length=32) (hp:p.Ok) (hmm:mm.length=32) (w:World):Calls Tryz.prog 165 #[A8 n,H7 p.row,A8 mm] w fun e w'=>e=.returned (H7 (B1i n p mm).row)∧Below w.heap.size w w':=by
 rw[Pn.seg,Pn.seg];have oA:=Px Q7 X3;have oB:=Px hp X3;have lA:=Mn Z1 X3;have lB:=Mn p X3;let R (i:Nat) (z:Int):List Av:=[Km n 32 hn,Km mm 32 hmm,Ca X3 5 P6,Ca (Pl (Bo Z1 X3)) 320 (by rw[Z3 oA,lA]),Ca (Pl (Bo p X3)) 320 (by rw[Z3 oB,lB])]++((Wb n p mm i).av (A2i n p mm i)++[Zi (.int .i64 z) rfl])
 refine B0f (g:=Hc) (ρ0:=[Km n 32 hn]++(p.av hp++[Km mm 32 hmm])) 200 64 E3r (fun i=>R i (63-(i:Int))) [] E7 Tryz.func165 (by kernel_rfl) ?_ (fun i hi=>?_) ?_ (by kernel_rfl)
 ·exact Go.run (g:=Hc) 200 [dE Wq P6,dP Xl Q7,dPl (B7c Z1 X3 Q7 P6) oA 320 (by rw[lA]),dPl (B7c p X3 hp P6) oB 320 (by rw[lB]),dLd (T:=240) 13 oA (by omega)] E7 (by kernel_rfl)
 ·have hr:=A2i n p mm i;have h1:=B4x n (63-i);have h2:=B4x mm (63-i);show Go _ _ (R i (63-(i:Int))) _ _ (R (i+1) (63-((i+1:Nat):Int))) _ _;rw[show 63-((i+1:Nat):Int)=((63-i:Nat):Int)-1 by omega,show 63-(i:Int)=((63-i:Nat):Int) by omega];exact Go.run (g:=Hc.ix [(54,13,dg n (63-i)*20),(61,14,dg mm (63-i)*20)]) 200 ([dGe (x:=((63-i:Nat):Int)) (y:=0) (b:=true) (by simp)]++((List.range 4).map fun j=>dP (Xh (Zn j (Wb n p mm i)) (Qx hr j)) (Qx hr (j+1))) ++
   [dV (Ua n hn (63-i) (by omega)) rfl,dIx (T:=240) (cs:=E4 (Pl (Bo Z1 X3))) 54 13 (dg n (63-i)) 20 .u8 Tryz.underlying240 (by kernel_rfl) h1 (by decide) rfl (fun _ _ _=>rfl),dLx (T:=240) 54 13 (dg n (63-i)) oA (by omega) rfl (fun _ _ _=>rfl),dP (Qv (Zn 4 (Wb n p mm i)) (Eh (Bo Z1 X3) (dg n (63-i))) X3 (Qx hr 4) (oA.at _) P6) (Di _ _ _),
   dV (Ua mm hmm (63-i) (by omega)) rfl,dIx (T:=240) (cs:=E4 (Pl (Bo p X3))) 61 14 (dg mm (63-i)) 20 .u8 Tryz.underlying240 (by kernel_rfl) h2 (by decide) rfl (fun _ _ _=>rfl),dLx (T:=240) 61 14 (dg mm (63-i)) oB (by omega) rfl (fun _ _ _=>rfl),dP (Qv (Gq (Zn 4 (Wb n p mm i)) (Eh (Bo Z1 X3) (dg n (63-i))) X3) (Eh (Bo p X3) (dg mm (63-i))) X3 (Di _ _ _) (oB.at _) P6) (Di _ _ _),C6s ((63-i:Nat):Int) 1 (B2o _ (by omega) (by omega))]) E7 (by kernel_rfl)
 ·exact Go.run (g:=Hc) 200 [dGe (x:=-1) (y:=0) (b:=false) rfl] E7 (by kernel_rfl)
end
theorem E6b (x y:UInt8):Op.intArith .sub .u8 (n8 x) (n8 y)=pure (.int .u8 (n8 (x-y))):=by
 unfold Op.intArith n8;have hx:=lt8 x;have hy:=lt8 y;have e:IntKind.u8.wrap ((x.toNat:Int)-(y.toNat:Int))=(((256-y.toNat+x.toNat) % 256:Nat):Int):=by
  simp only[IntKind.wrap,IntKind.bits,IntKind.signed,Bool.false_and,Bool.false_eq_true,if_false];omega
 rw[e,UInt8.toNat_sub]
@[go_sem ↓ high] theorem E8y (x : UInt8) : Op.intArith .sub .u8 (n8 x) 97 = pure (.int .u8 (n8 (x - 97))) := E6b x 97
@[go_sem ↓ high] theorem E8j (x : UInt8) : Op.intArith .sub .u8 (n8 x) 48 = pure (.int .u8 (n8 (x - 48))) := E6b x 48
@[go_sem ↓ high] theorem E8o (x : UInt8) : Op.intArith .add .u8 (n8 x) 10 = pure (.int .u8 (n8 (x + 10))) := E9o x 10
def Sc (c:UInt8):UInt8:=if 97≤c.toNat then c-97+10 else c-48
theorem A1e (c:UInt8) (w:World):Calls Tryz.prog 206 #[.int .u8 (n8 c)] w fun e w'=>e=.returned (.int .u8 (n8 (Sc c)))∧Below w.heap.size w w':=by
 by_cases h:97≤c.toNat
 ·have h1:97≤n8 c:=by unfold n8;omega
  have HN:Hid (Sc c=c-97+10):=Lib.hid (if_pos h);clear h;go_enter Tryz.func206,Tryz.ntmps206;go_wp2_with fail;go_ret;exact ⟨by rw[HN.out];rfl,Below.refl _ _⟩
 ·have h1:n8 c<97:=by unfold n8;omega
  have HN:Hid (Sc c=c-48):=Lib.hid (if_neg h);clear h;go_enter Tryz.func206,Tryz.ntmps206;go_wp2_with fail;go_ret;exact ⟨by rw[HN.out];rfl,Below.refl _ _⟩
noncomputable def A0o:ByteArray:=match Tryz.f205.body with
 | some (.seq _ (.seq (.region _ ops _) _))=>(match ops[0]? with
  | some o=>(match o.op with | .assign (.const (.string b))=>b | _=>⟨#[]⟩)
  | none=>⟨#[]⟩)
 | _=>⟨#[]⟩
noncomputable def M5:List UInt8:=A0o.data.toList
theorem A4t:M5.length=4096:=by kernel_rfl
theorem B9d : Tryz.f205.body = some (Code.seq (Code.region 0 #[{ dst := some 0, op := .assign (.const (.string ⟨#[]⟩)), type := 9, pos := "curve.go:119", after := #[], guard := none }] false)
 (Code.seq (Code.region 1 #[{ dst := some 0, op := .assign (.const (.string A0o)), type := 9, pos := "curve.go:120", after := #[], guard := none }] false) Code.ret)) := by kernel_rfl
theorem D2p:Value.string A0o=S8 M5:=rfl
attribute [irreducible] A0o M5
theorem C4a (w:World):Calls Tryz.prog 205 #[] w fun e w'=>e=.returned (S8 M5)∧Below w.heap.size w w':=by
 refine calls_of_wp Tryz.func205 B9d ?_;simp only[Tryz.ntmps205,List.size_toArray,List.length_cons,List.length_nil,Nat.reduceAdd,Nat.reduceSub,Array.replicate_succ,
  Array.replicate_zero,List.push_toArray,List.append_toArray,List.nil_append,List.cons_append]
 have HS:=Lib.hid D2p;go_wp2_with fail;go_ret;exact ⟨by rw[←HS.out];rfl,Below.refl _ _⟩
def D3n (w:World) (raw:Result Next):Value→Value→Result Next
 | .string s,.int _ i=>if 0≤i∧i<s.data.toList.length then .ok (.value (.int .u8 (n8 (g8 s.data.toList i.toNat)))) w else raw
 | _,_=>raw
@[go_sem] theorem E7z (w : World) (raw : Result Next) (l : List UInt8) (k : IntKind) (i : Int) : D3n w raw (S8 l) (.int k i) = if 0 ≤ i ∧ i < l.length then .ok (.value (.int .u8 (n8 (g8 l i.toNat)))) w else raw := rfl
@[go_sem ↓ high] theorem E1y (w : World) (ρ : Operand → Value) (dst : Option Tmp) (ty : TypeId) (pos : String) (after : Array Edge) (guard : Option (Nat × Bool)) (x ix : Operand) :
 (execOp ρ { dst,op:=.index 9 x ix,type:=ty,pos,after,guard }).run Tryz.prog w=D3n w (O9 Tryz.prog ρ { dst,op:=.index 9 x ix,type:=ty,pos,after,guard } w) (ρ x) (ρ ix):=by
 generalize hv:ρ x=v;generalize hz:ρ ix=z;unfold D3n;split
 ·rename_i s kk i
  split
  ·rename_i hc
   have hs:s.size=s.data.toList.length:=rfl;have hi:0≤i∧i<s.size:=by omega
   have e1:=run_index_string (P:=Tryz.prog) w 9 s kk i Tryz.underlying9;rw[dif_pos hi]at e1;simp only[execOp,hv,hz,Sem.run_bind,e1,Result.andThen_ok,Sem.run_pure];have e2:((s[i.toNat]'(by omega)).toNat:Int)=n8 (g8 s.data.toList i.toNat):=by
    have hl:i.toNat<s.data.toList.length:=by omega
    unfold g8 n8;rw[List.getD_eq_getElem?_getD,List.getElem?_eq_getElem hl];show ((s.data[i.toNat]'(by omega)).toNat:Int)=_;simp
   rw[e2]
  ·rfl
 ·rfl
theorem D3q:((Tryz.prog.info? 298).bind (·.zero))=some (A8 (z8 64)):=by kernel_rfl
@[go_sem ↓ high] theorem E5w:RA' 298 (c8 (z8 64)).toArray:=fun w ρ dst ty pos after guard=>N8 w ρ dst ty pos after guard 298 (A8 (z8 64)) D3q
def E1 (l:List UInt8) (o:Nat):List UInt8:=(l.drop o).take 32
theorem A7w {l:List UInt8} (hl:l.length=64) (o:Nat) (ho:o≤32):(E1 l o).length=32:=by unfold E1;simp;omega
theorem Bk.xyAt {w:World} {g:Nat} {t:TypeId} {l:List UInt8} (K:Bk w g t (c8 l)) (hl:l.length=64) (o:Nat) (ho:o≤32):C4 w ⟨g,o,none⟩ 32=some (c8 (E1 l o)):=by
 unfold E1;rw[K.rowMid o 32 (by simp;omega)];simp[c8]
noncomputable def Aa (i k:Nat):UInt8:=Sc (g8 M5 (128*i+2*k)) <<< 4 ||| Sc (g8 M5 (128*i+2*k+1))
noncomputable def C2d (i:Nat):List UInt8:=He (Aa i) 64 64
noncomputable def Ke (i:Nat):Pn:=Z7 (U8 (E1 (C2d i) 0)) (U8 (E1 (C2d i) 32))
theorem Ng (i:Nat):(Ke i).Ok:=Bq (F0 _) (F0 _)
theorem D1p {i:Nat} (h:i<32):(Ie Ke 32 i).set i (Z7 (U8 (E1 (He (Aa i) 64 64) 0)) (U8 (E1 (He (Aa i) 64 64) 32)))=Ie Ke 32 (i+1):=D2r h rfl
noncomputable def Ya:List Pn:=Ie Ke 32 32
theorem A0h:Ez Ya:=Jq Ng 32 32
theorem D6q {i:Nat} (hi:i<32):Eh Ya i=Ke i:=by unfold Ya;rw[C1z hi,if_pos hi]
theorem B7h (w:World):Calls Tryz.prog 185 #[] w fun e w'=>e=.returned (H7 (Pl Ya))∧Below w.heap.size w w':=by
 obtain⟨W0,cO⟩:=D9 ((w.alloc (Obj.cells (E4 (T9 640)).toArray 275)));have hL:W0=Z0 w [(275,(E4 (T9 640)))]:=cO;have B0:=BL' hL;have bJ:=KZ' hL rfl;have z0:=ZL' 1 hL rfl;have cX:=SL' 1 hL rfl;clear hL;obtain⟨V1,bH⟩:=D9 (W0.alloc (Obj.cells (E4 (T9 640)).toArray 275));have cY:W0.heap.size=w.heap.size+1:=cX;have aJ:Bk V1 (w.heap.size+1) 275 (E4 (T9 640)):=by rw[bH,←cY];exact Bk.new W0 _ _
 have aS:=KA' bH bJ;have cZ:=BC' bH B0;clear cY;go_enter Tryz.func185,Tryz.ntmps185;go_wp2_with fail;rw[←cO,←bH];have dC:=ZA' bH z0;clear cO bH cX bJ B0 z0;rw[←D9y Ke]at aJ;go_wp2_with fail;refine (C4a V1).mono ?_;rintro e W2 ⟨rfl,b3⟩;have B2:=X4 cZ b3;have z2:=Nat.le_trans dC b3.size;have bK:=aS.bl b3;have bL:=aJ.bl b3;clear b3 cZ dC aS aJ;go_wp2_with fail;go_loopw [8] (fun x8 wr=>∃i:Nat,0≤i∧i≤32∧x8=.int .i64 (i:Int)∧Bk wr (w.heap.size) 275 (E4 (T9 640))∧Bk wr (w.heap.size+1) 275 (E4 (Pl (Ie Ke 32 i)))∧Below w.heap.size w wr∧w.heap.size+1≤wr.heap.size) (fun x8 _=>32-(intOf x8).toNat)
 case atStart=>exact ⟨0,by omega,by omega,rfl,bK,bL,B2,z2⟩
 case round=>
  clear B2 z2 bK bL;obtain⟨i,eN,hi,rfl,aB,aC,aX,aP⟩:=hrel;by_cases hlti:i<32
  ·
   have eO:decide ((i:Int)<32)=true:=decide_eq_true (by omega);obtain⟨V4,aY⟩:=D9 (wr.alloc (Obj.cells (c8 (z8 64)).toArray 298));have bM:wr.heap.size=wr.heap.size:=rfl;have aH:Bk V4 (wr.heap.size) 298 (c8 (z8 64)):=by rw[aY,←bM];exact Bk.new wr _ _
   have aT:=KA' aY aB;have aU:=KA' aY aC;have dD:=BC' aY aX;have aK:=LS' bM aB;have aL:=LS' bM aC;have bN:w.heap.size+1≤wr.heap.size:=by rw[←bM];exact Nat.le_trans aP (Nat.le_refl _)
   clear bM;go_wp2_with fail;rw[←aY];obtain⟨p5,cP⟩:=D9 (wr.heap.size);rw[←cP]at aH aK aL bN;try rw[←cP]
   have dF:=ZA' aY aP;clear aY cP aP;rw[←A7b (f:=Aa i)]at aH;go_wp2_with fail;go_loopw [11] (fun x11 wr=>∃k:Nat,0≤k∧k≤64∧x11=.int .i64 (k:Int)∧Bk wr (w.heap.size) 275 (E4 (T9 640))∧Bk wr (w.heap.size+1) 275 (E4 (Pl (Ie Ke 32 i)))∧Bk wr (p5) 298 (c8 (He (Aa i) 64 k))∧Below w.heap.size w wr∧w.heap.size+1≤wr.heap.size) (fun x11 _=>64-(intOf x11).toNat)
   case atStart=>exact ⟨0,by omega,by omega,rfl,aT,aU,aH,dD,dF⟩
   case round=>
    clear dD dF aT aU aH;obtain⟨k,eP,hk,rfl,aB,aC,aD,aX,aP⟩:=hrel;by_cases hltk:k<64
    ·
     have eQ:decide ((k:Int)<64)=true:=decide_eq_true (by omega);obtain⟨aA,bO⟩:=D9 (128*i+2*k);have eS:128*(i:Int)+2*(k:Int)=(aA:Int):=by omega
     have dU:((aA:Int)+1).toNat=aA+1:=by omega
     have dW:=A4t;have eT:aA+1<M5.length:=by omega
     have dX:(aA:Int)+1<(M5.length:Int):=by omega
     have dG:(aA:Int)<(M5.length:Int):=by omega
     obtain⟨qq,dY⟩:=D9 (k / 32);obtain⟨rr,dZ⟩:=D9 (k % 32);have eU:(k:Int) / 32=(qq:Int):=by omega
     have eV:(k:Int) % 32=(rr:Int):=by omega
     have eA:Int.tmod (k:Int) 32=(rr:Int):=by rw[Int.tmod_eq_emod_of_nonneg (by omega)];omega
     have eB:qq<2:=by omega
     have eC:rr<32:=by omega
     have dI:qq*32+rr=k:=by omega
     have eD:=Lib.hid dI;have HA:Hid (Aa i k=Sc (g8 M5 aA) <<< 4 ||| Sc (g8 M5 (aA+1))):=Lib.hid (by rw[bO];rfl);clear bO dY dZ dW dI;go_wp2_with fail;have S6:=Nq wr;refine Ij (fun W=>True) ?_;refine Cn (A:=?eW) [0,1,2,3,4,5,6,9,10,11,12,15] trivial (fun W hW=>?eE) ?eX;case eE=>exact Fa
     refine Cf [zv 7 26 (.int .u8 (n8 (Sc (g8 M5 aA)))),zv 8 27 (.int .u8 (n8 (Sc (g8 M5 aA) <<< 4))),zv 13 32 (.int .u8 (n8 (Sc (g8 M5 (aA+1))))),zv 14 33 (.int .u8 (n8 (Sc (g8 M5 aA) <<< 4 ||| Sc (g8 M5 (aA+1))))),zv 16 35 (.pointer (some ⟨p5,qq*32+rr,none⟩))] (by kernel_rfl) (fun W hW=>trivial) ?bP ?bQ ?bR;case bP=>exact MO'
     case bQ=>
      refine (Mp ⟨?cQ,(Mp ⟨?cR,(Mp ⟨?bS,(Mp ⟨?bT,(Mp ⟨?bU,FN'⟩)⟩)⟩)⟩)⟩);case cQ=>
       exact KC' fun W=>A1e (g8 M5 aA) W
      case cR=>intro o ho us W hW hp Q' hQ';obtain rfl:=Option.some.inj ho;have aI:us 7=(.int .u8 (n8 (Sc (g8 M5 aA)))):=hp 0 _ rfl (by kernel_rfl);clear hp ho;rw[D8]at hQ' ⊢;dsimp only[C6,O6,List.foldl,zv,za]at hQ' ⊢;simp only[Nv];rw[aI]at hQ' ⊢;clear aI;go_wp2_with fail;exact FE' (hQ' _ _ (Below.refl _ _) rfl nofun)
      case bS=>exact E7h fun W=>A1e (g8 M5 (aA+1)) W
      case bT=>intro o ho us W hW hp Q' hQ';obtain rfl:=Option.some.inj ho;have aM:us 8=(.int .u8 (n8 (Sc (g8 M5 aA) <<< 4))):=hp 1 _ rfl (by kernel_rfl);have aE:us 13=(.int .u8 (n8 (Sc (g8 M5 (aA+1))))):=hp 2 _ rfl (by kernel_rfl);clear hp ho;rw[D8]at hQ' ⊢;dsimp only[C6,O6,List.foldl,zv,za]at hQ' ⊢;simp only[Nv];rw[aM,aE]at hQ' ⊢;clear aM aE;go_wp2_with fail;exact FE' (hQ' _ _ (Below.refl _ _) rfl nofun)
      case bU=>intro o ho us W hW hp Q' hQ';obtain rfl:=Option.some.inj ho;have aI:us 7=(.int .u8 (n8 (Sc (g8 M5 aA)))):=hp 0 _ rfl (by kernel_rfl);have aM:us 8=(.int .u8 (n8 (Sc (g8 M5 aA) <<< 4))):=hp 1 _ rfl (by kernel_rfl);have aE:us 13=(.int .u8 (n8 (Sc (g8 M5 (aA+1))))):=hp 2 _ rfl (by kernel_rfl);have aN:us 14=(.int .u8 (n8 (Sc (g8 M5 aA) <<< 4 ||| Sc (g8 M5 (aA+1))))):=hp 3 _ rfl (by kernel_rfl);clear hp ho;rw[D8]at hQ' ⊢;dsimp only[C6,O6,List.foldl,zv,za]at hQ' ⊢;simp only[Nv];rw[aI,aM,aE,aN]at hQ' ⊢;clear aI aM aE aN;go_wp2_with fail;exact FE' (hQ' _ _ (Below.refl _ _) rfl nofun)
     case bR=>
     intro us W7 b8 hg aZ cS;have aI:us 7=(.int .u8 (n8 (Sc (g8 M5 aA)))):=hg _ (Yi 0 rfl);have aM:us 8=(.int .u8 (n8 (Sc (g8 M5 aA) <<< 4))):=hg _ (Yi 1 rfl);have aE:us 13=(.int .u8 (n8 (Sc (g8 M5 (aA+1))))):=hg _ (Yi 2 rfl);have aN:us 14=(.int .u8 (n8 (Sc (g8 M5 aA) <<< 4 ||| Sc (g8 M5 (aA+1))))):=hg _ (Yi 3 rfl);have bX:us 16=(.pointer (some ⟨p5,qq*32+rr,none⟩)):=hg _ (Yi 4 rfl);have b9:=X4 S6 b8;refine RP' ?_;rw[aI,aM,aE,aN,bX];clear hg aZ cS aI aM aE aN bX b8 S6;have B7:=X4 aX b9;have z7:=Nat.le_trans aP b9.size;have bY:=aB.bl b9;have bZ:=aC.bl b9;have aQ:=aD.bl b9;clear b9 aX aP aB aC aD;obtain⟨dJ,aF⟩:=D9 (W7.setCell ⟨p5,qq*32+rr,none⟩ (.int .u8 (n8 (Sc (g8 M5 aA) <<< 4 ||| Sc (g8 M5 (aA+1))))));have cA:Bk dJ (p5) 298 (c8 ((He (Aa i) 64 k).set (qq*32+rr) (Sc (g8 M5 aA) <<< 4 ||| Sc (g8 M5 (aA+1))))):=by have:=aQ.set_ (qq*32+rr) (.int .u8 (n8 (Sc (g8 M5 aA) <<< 4 ||| Sc (g8 M5 (aA+1)))));rw[Lp]at this;rw[aF];exact this
     have cB:=KS' aF bY (by omega);have cC:=KS' aF bZ (by omega);have eF:=BS' aF B7 (by omega);have cD:=(aQ).at_ (Nh (l:=(He (Aa i) 64 k)) (i:=qq*32+rr) (by have hh:(He (Aa i) 64 k).length=64:=(Fl (Aa i) 64 k);omega));have cE:=(aQ).frozen (qq*32+rr);refine Q6 17 fun Q' hQ'=>?_;dsimp only[C6];go_wp2_with fail;rw[←aF];refine hQ' _ _ trivial ?_;clear hQ' cD cE;have eG:w.heap.size+1≤dJ.heap.size:=by have hz:=z7;rw[aF];simp[World.setCell];omega
     clear aF B7 z7 bY bZ aQ;refine Gn ?_;go_wp2_with fail;go_roundw;case rel=>exact ⟨k+1,by omega,by omega,by go_num,cB,cC,(by have h4:=cA;rw[eD.out,C0z hltk HA.out.symm]at h4;exact h4),eF,eG⟩
     case measure=>simp[intOf];omega
    ·
     obtain rfl:k=64:=by omega
     have dK:((64:Nat):Int)=64:=rfl;rw[dK];clear dK;go_wp2_with fail;have dL:=Nq wr;refine Ij (fun W=>Bk W (p5) 298 (c8 (He (Aa i) 64 64))) ?_;refine Cn (A:=?eH) [0,1,2,4,5] (aD.drew) (fun W hW=>?cT) ?eI;case cT=>have f2:=Bk.xyAt (hW) (Fl (Aa i) 64 64) 0 (by decide);have f5:=Bk.xyAt (hW) (Fl (Aa i) 64 64) 32 (by decide);exact Fa
     refine Cf [zv 3 40 (H7 (U8 (E1 (He (Aa i) 64 64) 0))),zv 6 43 (H7 (U8 (E1 (He (Aa i) 64 64) 32))),zv 7 44 (H7 (Z7 (U8 (E1 (He (Aa i) 64 64) 0)) (U8 (E1 (He (Aa i) 64 64) 32))).row),zv 8 45 (.pointer (some ⟨w.heap.size+1,i*20,none⟩))] (by kernel_rfl) (fun W hW=>(aD.drew.bl hW)) ?bA ?bB ?bC;case bA=>exact MO'
     case bB=>
      refine (Mp ⟨?cF,(Mp ⟨?cG,(Mp ⟨?cH,(Mp ⟨?cI,FN'⟩)⟩)⟩)⟩);case cF=>
       exact KC' fun W=>Ec (E1 (He (Aa i) 64 64) 0) (A7w (Fl (Aa i) 64 64) 0 (by decide)) W
      case cG=>exact E7h fun W=>Ec (E1 (He (Aa i) 64 64) 32) (A7w (Fl (Aa i) 64 64) 32 (by decide)) W
      case cH=>exact E7j fun W=>B6p (U8 (E1 (He (Aa i) 64 64) 0)) (U8 (E1 (He (Aa i) 64 64) 32)) (F0 (E1 (He (Aa i) 64 64) 0)) (F0 (E1 (He (Aa i) 64 64) 32)) W
      case cI=>intro o ho us W hW hp Q' hQ';obtain rfl:=Option.some.inj ho;have cJ:us 3=(H7 (U8 (E1 (He (Aa i) 64 64) 0))):=hp 0 _ rfl (by kernel_rfl);have cK:us 6=(H7 (U8 (E1 (He (Aa i) 64 64) 32))):=hp 1 _ rfl (by kernel_rfl);have aI:us 7=(H7 (Z7 (U8 (E1 (He (Aa i) 64 64) 0)) (U8 (E1 (He (Aa i) 64 64) 32))).row):=hp 2 _ rfl (by kernel_rfl);clear hp ho;rw[D8]at hQ' ⊢;dsimp only[C6,O6,List.foldl,zv,za]at hQ' ⊢;simp only[Nv];rw[cJ,cK,aI]at hQ' ⊢;clear cJ cK aI;go_wp2_with fail;exact FE' (hQ' _ _ (Below.refl _ _) rfl nofun)
     case bC=>
     intro us dM dO hg aZ cS;have cJ:us 3=(H7 (U8 (E1 (He (Aa i) 64 64) 0))):=hg _ (Yi 0 rfl);have cK:us 6=(H7 (U8 (E1 (He (Aa i) 64 64) 32))):=hg _ (Yi 1 rfl);have aI:us 7=(H7 (Z7 (U8 (E1 (He (Aa i) 64 64) 0)) (U8 (E1 (He (Aa i) 64 64) 32))).row):=hg _ (Yi 2 rfl);have aM:us 8=(.pointer (some ⟨w.heap.size+1,i*20,none⟩)):=hg _ (Yi 3 rfl);have bI:=X4 dL dO;refine RP' ?_;rw[cJ,cK,aI,aM];clear hg aZ cS cJ cK aI aM dO dL;have dQ:=X4 aX bI;have dS:=Nat.le_trans aP bI.size;have aV:=aB.bl bI;have aO:=aC.bl bI;have aW:=aD.bl bI;clear bI aX aP aB aC aD;obtain⟨eJ,aG⟩:=D9 (C2 dM ⟨w.heap.size+1,i*20,none⟩ (E4 (Z7 (U8 (E1 (He (Aa i) 64 64) 0)) (U8 (E1 (He (Aa i) 64 64) 32))).row));have cL:Bk eJ (w.heap.size+1) 275 (E4 (Pl ((Ie Ke 32 i).set i (Z7 (U8 (E1 (He (Aa i) 64 64) 0)) (U8 (E1 (He (Aa i) 64 64) 32)))))):=by rw[aG];exact Bk.plPut (i:=i) (aO) (Jq Ng 32 i) (by simp;try omega) (Bq (F0 (E1 (He (Aa i) 64 64) 0)) (F0 (E1 (He (Aa i) 64 64) 32)))
     have cM:=KF' aG aV (by omega);have cN:=KF' aG aW (by omega);have eK:=BP' aG dQ (by omega);have bD:F9 dM ⟨w.heap.size+1,i*20,none⟩ 20=true:=Bk.plCan (i:=i) (aO) (Jq Ng 32 i) (by simp;try omega);have bE:(Z7 (U8 (E1 (He (Aa i) 64 64) 0)) (U8 (E1 (He (Aa i) 64 64) 32))).row.length=20:=(Bq (F0 (E1 (He (Aa i) 64 64) 0)) (F0 (E1 (He (Aa i) 64 64) 32))).row;refine Q6 9 fun Q' hQ'=>?_;dsimp only[C6];go_wp2_with fail;rw[←aG];refine hQ' _ _ cN ?_;clear hQ' bD bE;have eL:=ZP' aG dS;clear aG dQ dS aV aO aW;refine Gn ?_;go_wp2_with fail;go_roundw;case rel=>exact ⟨i+1,by omega,by omega,by go_num,cM,(by have h1:=cL;rw[D1p hlti]at h1;exact h1),eK,eL⟩
     case measure=>simp[intOf];omega
  ·
   obtain rfl:i=32:=by omega
   have dT:((32:Nat):Int)=32:=rfl;rw[dT];clear dT;obtain⟨eY,aR⟩:=D9 (C2 wr ⟨w.heap.size,0,none⟩ (E4 (Pl (Ie Ke 32 32))));have bF:=P4' 640 aR aB (by simp) (by rw[Z3 (Jq Ng 32 32)];simp);have cU:=BP' aR aX (by omega);have eM:=Bk.row64 (n:=640) (aC) ((show (Pl (Ie Ke 32 32)).length=640 from by rw[Z3 (Jq Ng 32 32)];simp));have bG:=C4' 640 aB (by simp);have cV:(Pl (Ie Ke 32 32)).length=640:=(show (Pl (Ie Ke 32 32)).length=640 from by rw[Z3 (Jq Ng 32 32)];simp);go_wp2_with fail;rw[←aR];clear eM bG cV;clear aR aP;have cW:(Pl (Ie Ke 32 32)).length=640:=(show (Pl (Ie Ke 32 32)).length=640 from by rw[Z3 (Jq Ng 32 32)];simp);refine bodyPost_ret (C7 rfl _ _ _ _ _ _ rfl bF Tryz.underlying275 rfl (by simp[A0u,cW])) rfl ⟨rfl,cU⟩
section
theorem C0f (w:World):(sizeOf 182).run Tryz.prog w=.ok 20 w:=by kernel_rfl
theorem C1w (xs:List UInt64) (o:Nat) (w:World):(part 182 (E4 xs).toArray o).run Tryz.prog w=.ok (H7 ((xs.drop o).take 20)) w:=by
 simp[part,isAgg,run_underlying A5u,C0f,H7,E4,List.extract_eq_take_drop]
theorem D2x {ps:List Pn} (h:Ez ps) {i:Nat} (hi:i<32) (hl:ps.length=32) (w:World):(Instr.index 275 (H7 (Pl ps)) (.int .i64 (i:Int))).run Tryz.prog w=.ok (Eh ps i).val w:=by
 rw[←Pn.seg];show _=Result.ok (H7 (ps.getD i Bj).row) w;rw[←C8u i h (by omega)];have h6:¬ 32≤i:=by omega
 have e1:=C1w (Pl ps) (i*20) w;simp[H7,Instr.index,run_underlying Tryz.underlying275,asIntOf,hi,h6,C0f,C1w]
def C5d (n:List UInt8) (i s:Nat):Bool:=g8 n i >>> UInt8.ofNat s &&& 1==1
noncomputable def X6 (n:List UInt8) (s:Nat) (r:Pn):Nat→Pn
 | 0=>r
 | i+1=>if C5d n i s then Gq (X6 n s r i) (Ke i) X3 else X6 n s r i
theorem Cm (n:List UInt8) (s:Nat) {r:Pn} (hr:r.Ok):∀i,(X6 n s r i).Ok
 | 0=>hr
 | i+1=>by
  unfold X6;split
  ·exact Di _ _ _
  ·exact Cm n s hr i
theorem B5b {n:List UInt8} {s:Nat} {r:Pn} {i:Nat} (hb:C5d n i s=true) (hi:i<32):X6 n s r (i+1)=Gq (X6 n s r i) (Eh Ya i) X3:=by
 rw[D6q hi];exact if_pos hb
theorem B7t {n:List UInt8} {s:Nat} {r:Pn} {i:Nat} (hb:C5d n i s=false):X6 n s r (i+1)=X6 n s r i:=if_neg (by rw[hb];decide)
noncomputable def Bx (n:List UInt8):Nat→Pn
 | 0=>P4 Bj
 | m+1=>X6 n (7-m) (Qb (Bx n m)) 32
theorem Li (n:List UInt8):∀m,(Bx n m).Ok
 | 0=>T6 Cp
 | m+1=>Cm n _ (Zt _) 32
noncomputable def A2v (n:List UInt8):Pn:=Bx n 8
theorem A5c (n:List UInt8):(A2v n).Ok:=Li n 8
set_option maxRecDepth 100000
theorem D1a {s:Nat} (h:s<8) (W:World):(convert 3 35 (.int .i64 (s:Int))).run Tryz.prog W=.ok (.int .u64 (s:Int)) W:=by
 have e:IntKind.u64.wrap (s:Int)=(s:Int):=IntWalk.u64_in _ (by omega);have h1:(convert 3 35 (.int .i64 (s:Int))).run Tryz.prog W=.ok (.int .u64 (IntKind.u64.wrap (s:Int))) W:=by kernel_rfl
 rw[h1,e]
def D2z:List (Nat×TypeId×List Sg):=[(0,40,[.m 0 32]),(1,182,List.replicate 20 (.c (.int .u64 0))),(3,180,[.m 1 5]),(6,275,[.m 2 640]),(10,182,[.m 3 5,.m 4 5,.m 5 5,.m 6 5])]
def D0b:List (Nat×SV):=[(1,.v false [.p 0 0]),(2,.v false [.p 1 0]),(3,.v false [.p 3 0]),(4,.v false [.p 6 0]),(5,.v false [.p 10 0]),(6,.v false [.m 7 1])]
def B0v:St:=D4k 38 13 D0b D2z
def E0h:St:=D4k 38 13 (D0b++[(19,.v true [.m 2 640]),(20,.v false [.m 8 1])]) D2z
theorem C5y (n:List UInt8) (hn:n.length=32) (w:World):Calls Tryz.prog 145 #[A8 n] w fun e w'=>e=.returned (H7 (A2v n).row)∧Below w.heap.size w w':=by
 rw[Pn.seg];have lL:Ya.length=32:=by unfold Ya;simp
 let R (p:Pn) (hp:p.Ok) (z:List Int):List Av:=[Km n 32 hn,Ca X3 5 P6,Ca (Pl Ya) 640 (by rw[Z3 A0h,lL])]++(p.av hp++z.map fun z=>Zi (.int .i64 z) rfl)
 refine B0f (g:=Hc) (ρ0:=[Km n 32 hn]) 200 8 B0v (fun m=>R (Bx n m) (Li n m) [7-(m:Int)]) [] E7 Tryz.func145 (by kernel_rfl) ?_ (fun m hm=>?_) ?_ (by kernel_rfl)
 ·exact Go.run (g:=Hc) 200 [dE Wq P6,dPl B7h A0h 640 (by rw[lL]),dP (Mi Bj Cp) (T6 Cp)] E7 (by kernel_rfl)
 ·show Go _ _ (R (Bx n m) (Li n m) [7-(m:Int)]) _ _ (R (X6 n (7-m) (Qb (Bx n m)) 32) (Cm n (7-m) (Zt _) 32) [7-((m+1:Nat):Int)]) _ _;rw[show 7-((m+1:Nat):Int)=((7-m:Nat):Int)-1 by omega,show 7-(m:Int)=((7-m:Nat):Int) by omega];obtain⟨s,hs⟩:=D9 (7-m);rw[←hs];have aA:s<8:=by omega
  clear hs hm;have hr:(Qb (Bx n m)).Ok:=Zt _;refine Go.blk (ρ1:=R (Bx n m) (Li n m) [(s:Int)]) (s1:=B0v) (ρ2:=R (X6 n s (Qb (Bx n m)) 32) (Cm n s hr 32) [(s:Int)]) (s2:=B0v) (by kernel_rfl) (Go.run (g:=Hc) 200 [dGe (x:=(s:Int)) (y:=0) (b:=true) (by simp)] E7 (by kernel_rfl)) ?_ (Go.run (g:=Hc) 200 [C6s (s:Int) 1 (B2o _ (by omega) (by omega))] E7 (by kernel_rfl));refine Go.lp (n:=32) (s1:=E0h) (fun i=>R (X6 n s (Qb (Bx n m)) i) (Cm n s hr i) [(s:Int),(i:Int)]) (ρ2:=R (X6 n s (Qb (Bx n m)) 32) (Cm n s hr 32) [(s:Int)]) (s2:=B0v) (by kernel_rfl) ?_ (fun i hi=>?_) ?_ (Go.run (g:=Hc) 200 [] E7 (by kernel_rfl))
  ·exact Go.run (g:=Hc) 200 [dP (Xh (Bx n m) (Li n m)) hr] E7 (by kernel_rfl)
  ·have ho:=Cm n s hr i;have hp:=A0h.at i;show Go _ _ (R (X6 n s (Qb (Bx n m)) i) ho [(s:Int),(i:Int)]) _ _ (R (X6 n s (Qb (Bx n m)) (i+1)) (Cm n s hr (i+1)) [(s:Int),(i:Int)+1]) _ _;let D (b:Bool) (hb:C5d n i s=b):List (DC Tryz.prog (fIx [(20,0,i*1)]) fun W=>Below w.heap.size w W):=[E5x (x:=(i:Int)) (y:=32) (b:=true) (by simp;omega),D2k (s:=Instr.index 275 (H7 (Pl Ya)) (.int .i64 (i:Int))) (v:=(Eh Ya i).val) (D2x A0h hi lL) ((Eh Ya i).av hp),
    dIx (T:=40) (cs:=c8 n) 20 0 i 1 .i64 Tryz.underlying40 (by kernel_rfl) hi (by decide) rfl (fun _ _ _=>rfl),dL8 (T:=40) (l:=n) 20 0 i (by omega) rfl (fun _ _ _=>rfl),
    D2k (s:=convert 3 35 (.int .i64 (s:Int))) (v:=.int .u64 (s:Int)) (fun W=>D1a aA W) [Zi (.int .u64 (s:Int)) rfl],E1e (g8 n i) .u64 s aA,C4o (g8 n i >>> UInt8.ofNat s) 1,D6o (g8 n i >>> UInt8.ofNat s &&& 1) 1 hb]
   cases hb:C5d n i s with
   | true=>
    suffices hh:∀q (hq:Pn.Ok q),q=Gq (X6 n s (Qb (Bx n m)) i) (Eh Ya i) X3→Go _ _ (R _ ho [(s:Int),(i:Int)]) _ _ (R q hq [(s:Int),(i:Int)+1]) _ _ from hh _ _ (B5b hb hi)
    rintro q hq rfl;exact Go.run (g:=Hc.ix [(20,0,i*1)]) 200 (D true hb++[dP (Qv _ (Eh Ya i) X3 ho hp P6) hq,D7y (i:Int) 1 (B2o _ (by omega) (by omega))]) E7 (by kernel_rfl)
   | false=>
    suffices hh:∀q (hq:Pn.Ok q),q=X6 n s (Qb (Bx n m)) i→Go _ _ (R _ ho [(s:Int),(i:Int)]) _ _ (R q hq [(s:Int),(i:Int)+1]) _ _ from hh _ _ (B7t hb)
    rintro q hq rfl;exact Go.run (g:=Hc.ix [(20,0,i*1)]) 200 (D false hb++[D7y (i:Int) 1 (B2o _ (by omega) (by omega))]) E7 (by kernel_rfl)
  ·exact Go.run (g:=Hc) 200 [E5x (x:=32) (y:=32) (b:=false) rfl] E7 (by kernel_rfl)
 ·exact Go.run (g:=Hc) 200 [dGe (x:=-1) (y:=0) (b:=false) rfl] E7 (by kernel_rfl)
end
end Go.Proofs.YtmllnpokbbabhaaGreat
