/- A part of the proof of DirBuilds. -/
import Derived.Test.YtlegpkdighoflaaGreatSap
set_option linter.unusedVariables false
set_option linter.unusedSimpArgs false
set_option maxRecDepth 100000
set_option maxHeartbeats 40000000
namespace Go.Proofs.YtlegpkdighoflaaGreat
open Go Go.RowKit Sh
section
def Ie:Value→Option Nat
 | .pointer (some ⟨b,_,_⟩)=>some b
 | .slice (some ⟨b,_,_⟩) _ _=>some b
 | _=>none
structure Soup where
 at_:Nat
 dst:Tmp
 good:Value→World→Prop
 fresh:Bool
def zv (i:Nat) (d:Tmp) (x:Value):Soup:=⟨i,d,fun v _=>v=x,false⟩
def za (i:Nat) (d:Tmp) (T:TypeId) (cs:List Value):Soup:=⟨i,d,fun v w=>∃p,v=.pointer (some ⟨p,0,none⟩)∧Bk w p T cs,true⟩
def Soup.mono (z:Soup):Prop:=∀v W W',z.good v W→Below W.heap.size W W'→z.good v W'
theorem H7 (i:Nat) (d:Tmp) (x:Value):(zv i d x).mono:=fun _ _ _ h _=>h
theorem Ir (i:Nat) (d:Tmp) (T:TypeId) (cs:List Value):(za i d T cs).mono:=fun _ _ _ ⟨p,e,h⟩ hb=>⟨p,e,h.below hb h.lt⟩
theorem Kf (n:Nat) (L:List Nat):(O8 n L).size=n:=by
 unfold O8;have h:∀(L:List Nat) (m:Array Bool),(L.foldl (fun m i=>m.setIfInBounds i true) m).size=m.size:=by
  intro L;induction L with
  | nil=>intro m;rfl
  | cons i L ih=>intro m;simp only[List.foldl_cons];rw[ih];simp
 rw[h];simp
theorem Tb (n:Nat) (L:List Nat) (i:Nat) (h:i<n):(O8 n L)[i]?=some (decide (i∈L)):=by
 unfold O8;have hh:∀(L:List Nat) (m:Array Bool),i<m.size→(L.foldl (fun m i=>m.setIfInBounds i true) m)[i]?=some (decide (i∈L)||m.getD i false):=by
  intro L;induction L with
  | nil=>intro m hm;simp[hm]
  | cons k L ih=>
   intro m hm;simp only[List.foldl_cons];rw[ih _ (by simpa using hm)];by_cases hk:k=i
   ·subst hk;simp[hm]
   ·have:¬ i=k:=fun e=>hk e.symm;simp[hk,this,hm]
 rw[hh L _ (by simpa using h)];simp[h]
theorem Z7 (n:Nat) (L:List Nat) (i:Nat) (b:Bool) (h:i<n):(O8 n L).getD i b=decide (i∈L):=by
 have:=Tb n L i h;rw[Array.getD_eq_getD_getElem?,this];rfl
theorem Uu {n:Nat} {L L':List Nat} (h:∀i,i∈L↔i∈L'):O8 n L=O8 n L':=by
 apply Array.ext_getElem?;intro i;by_cases hi:i<n
 ·rw[Tb n L i hi,Tb n L' i hi];simp[h i]
 ·rw[Array.getElem?_eq_none (by rw[Kf];omega),Array.getElem?_eq_none (by rw[Kf];omega)]
def A2v (l:List Oper):Nat→Nat→Nat→Bool
 | 0,_,_=>false
 | k+1,r,z=>match l[r]? with
  | some o=>o.after.any (fun e=>Region.binds .any e&&e.on==z)||o.after.any (fun e=>Region.binds .any e&&A2v l k e.on z)
  | none=>false
def dcB (l:List Oper) (L:List Nat):Bool:=L.all fun i=>match l[i]? with
 | some o=>o.after.all fun e=>!Region.binds .any e||L.contains e.on
 | none=>false
def D3j (l:List Oper) (done zs:List Nat) (ds:List Nat):Bool:=
 inOrder l&&dcB l done&&zs.all (fun z=>!done.contains z&&(match l[z]? with | some o=>o.guard==none | none=>false))&&decide zs.Nodup&&decide ds.Nodup&&decide (done.length+zs.length≤l.length)
  && (List.range l.length).all fun r=>done.contains r||zs.contains r||zs.all fun z=>A2v l l.length r z
def X8 (Z:List Soup) (us:Nat→Value) (a:Act):Act:=Z.foldl (fun a z=>a.put (some z.dst) (us z.at_)) a
def Gb (us:Nat→Value) (i:Nat) (v:Value):Nat→Value:=fun j=>if j=i then v else us j
theorem C3d (a:Act) {d d':Tmp} (h:d≠d') (v v':Value):(a.put (some d) v).put (some d') v'=(a.put (some d') v').put (some d) v:=by
 unfold Act.put;simp only;rw[Array.setIfInBounds_comm _ _ h]
theorem C4j (a:Act) (d:Tmp) (u v:Value):(a.put (some d) u).put (some d) v=a.put (some d) v:=by
 unfold Act.put;simp only;congr 1;simp
theorem Xf:∀(Z:List Soup) (us:Nat→Value) (a:Act) (d:Tmp) (v:Value),d∉Z.map (·.dst)→(X8 Z us a).put (some d) v=X8 Z us (a.put (some d) v)
 | [],_,_,_,_,_=>rfl
 | z::Z,us,a,d,v,h=>by
  simp only[List.map_cons,List.mem_cons,not_or]at h;show (X8 Z us (a.put (some z.dst) (us z.at_))).put (some d) v=X8 Z us ((a.put (some d) v).put (some z.dst) (us z.at_));rw[Xf Z us _ d v h.2,C3d _ (Ne.symm h.1)]
theorem Sk:∀(Z:List Soup) (us us':Nat→Value) (a:Act),(∀z∈Z,us z.at_=us' z.at_)→X8 Z us a=X8 Z us' a
 | [],_,_,_,_=>rfl
 | z::Z,us,us',a,h=>by
  show X8 Z us (a.put (some z.dst) (us z.at_))=X8 Z us' (a.put (some z.dst) (us' z.at_));rw[h z (by simp),Sk Z us us' _ fun y hy=>h y (by simp[hy])]
theorem Ol:∀(Z:List Soup) (us:Nat→Value) (a:Act) (z:Soup) (v:Value),z∈Z→(Z.map (·.at_)).Nodup→(Z.map (·.dst)).Nodup→(X8 Z us a).put (some z.dst) v=X8 Z (Gb us z.at_ v) a
 | y::Z,us,a,z,v,hz,h1,h2=>by
  simp only[List.map_cons,List.nodup_cons]at h1 h2;rcases List.mem_cons.1 hz with rfl | hz
  ·show (X8 Z us (a.put (some z.dst) (us z.at_))).put (some z.dst) v=X8 Z (Gb us z.at_ v) (a.put (some z.dst) (Gb us z.at_ v z.at_));rw[Xf Z us _ _ v h2.1,C4j,show Gb us z.at_ v z.at_=v by simp[Gb]];refine Sk Z _ _ _ fun y hy=>?_;have:y.at_≠z.at_:=fun e=>h1.1 (by rw[←e];exact List.mem_map_of_mem hy);simp[Gb,this]
  ·show (X8 Z us (a.put (some y.dst) (us y.at_))).put (some z.dst) v=X8 Z (Gb us z.at_ v) (a.put (some y.dst) (Gb us z.at_ v y.at_));have:y.at_≠z.at_:=fun e=>h1.1 (by rw[e];exact List.mem_map_of_mem hz);rw[show Gb us z.at_ v y.at_=us y.at_ by simp[Gb,this]];exact Ol Z us _ z v hz h1.2 h2.2
theorem Nf:∀(Z:List Soup) (us:Nat→Value) (a:Act),(∀z∈Z,us z.at_=a.tmps.getD z.dst undef)→X8 Z us a=a
 | [],_,_,_=>rfl
 | z::Z,us,a,h=>by
  show X8 Z us (a.put (some z.dst) (us z.at_))=a;have e:a.put (some z.dst) (us z.at_)=a:=by
   rw[h z (by simp)];unfold Act.put;have:a.tmps.setIfInBounds z.dst (a.tmps.getD z.dst undef)=a.tmps:=by
    apply Array.ext_getElem?;intro i;by_cases hi:z.dst<a.tmps.size
    ·by_cases hiz:z.dst=i
     ·subst hiz;simp[hi]
     ·simp[hiz]
    ·simp[Array.setIfInBounds,hi]
   simp only[this]
  rw[e];exact Nf Z us a fun y hy=>h y (by simp[hy])
theorem Wx:∀(Z:List Soup) (g:Soup→Value),(Z.map (·.at_)).Nodup→∃us:Nat→Value,∀z∈Z,us z.at_=g z
 | [],_,_=>⟨fun _=>undef,fun z h=>by cases h⟩
 | z::Z,g,h=>by
  simp only[List.map_cons,List.nodup_cons]at h;obtain⟨us,hu⟩:=Wx Z g h.2;refine ⟨Gb us z.at_ (g z),fun y hy=>?_⟩;rcases List.mem_cons.1 hy with rfl | hy
  ·simp[Gb]
  ·have:y.at_≠z.at_:=fun e=>h.1 (by rw[←e];exact List.mem_map_of_mem hy);simp[Gb,this,hu y hy]
theorem Oc:∀(L L':List Nat),L.Nodup→(∀i∈L,i∈L')→L.length≤L'.length
 | [],_,_,_=>Nat.zero_le _
 | x::L,L',h,hs=>by
  simp only[List.nodup_cons]at h;have h1:=Oc L (L'.erase x) h.2 fun i hi=>(List.mem_erase_of_ne (fun e=>h.1 (by rw[←e];exact hi))).2 (hs i (by simp[hi]));have h2:=hs x (by simp);rw[List.length_erase_of_mem h2]at h1;have h3:0<L'.length:=List.length_pos_of_mem h2;simp only[List.length_cons];omega
theorem A2k:∀(Z:List Soup),(Z.map (·.at_)).Nodup→∀y∈Z,∀z∈Z,y.at_=z.at_→y=z
 | x::Z,h,y,hy,z,hz,e=>by
  simp only[List.map_cons,List.nodup_cons]at h;rcases List.mem_cons.1 hy with h1 | h1<;>rcases List.mem_cons.1 hz with h2 | h2
  ·rw[h1,h2]
  ·exact absurd (by rw[←h1,e];exact List.mem_map_of_mem h2) h.1
  ·exact absurd (by rw[←h2,←e];exact List.mem_map_of_mem h1) h.1
  ·exact A2k Z h.2 y h1 z h2 e
section
variable {P : Program} {l : List Oper} {Q : Exit → Act → World → Prop} {S : World → Prop}
theorem Mu {listed:Array Bool} (hdc:∀(i:Nat) (o:Oper),l[i]?=some o→listed.getD i false=true→∀e∈o.after,Region.binds .any e=true→listed.getD e.on false=true) :
 ∀(k r z:Nat),A2v l k r z=true→(∀o,l[r]?=some o→∀e∈o.after,Region.binds .any e=true→listed.getD e.on false=true)→listed.getD z false=true
 | 0,_,_,h,_=>by cases h
 | k+1,r,z,h,hr=>by
  unfold A2v at h;cases ho:l[r]? with
  | none=>rw[ho]at h;cases h
  | some o=>
   rw[ho]at h;simp only[Bool.or_eq_true,Array.any_eq_true',Bool.and_eq_true,beq_iff_eq]at h;rcases h with ⟨e,he,hb,rfl⟩ | ⟨e,he,hb,h⟩
   ·exact hr o ho e he hb
   ·exact Mu hdc k e.on z h fun o' ho'=>hdc e.on o' ho' (hr o ho e he hb)
def A0y (P:Program) (l:List Oper) (a:Act) (w:World) (Z:List Soup) (z:Soup):Prop:=
 ∀o,l[z.at_]?=some o→∀us W,Below w.heap.size w W→(∀(k:Nat) (y:Soup),Z[k]?=some y→(o.after.any fun e=>Region.binds .any e&&e.on==y.at_)=true→y.good (us y.at_) W)→
  ∀Q':Exit→Act→World→Prop,(∀v W',Below W.heap.size W W'→z.good v W'→(z.fresh=true→∃b,Ie v=some b∧W.heap.size≤b∧b<W'.heap.size)→Q' .normal ((X8 Z us a).put (some z.dst) v) W')→wpList P #[E4 o] Q' [E4 o] (X8 Z us a) W
theorem N9 {done:List Nat} {a:Act} {w:World} (Z:List Soup) (hB:D3j l done (Z.map (·.at_)) (Z.map (·.dst))=true)
 (hS:∀W,Below w.heap.size w W→S W) (hm:∀z∈Z,z.mono) (hstep:∀z∈Z,A0y P l a w Z z)
 (hr:∀us W,Below w.heap.size w W→(∀z∈Z,z.good (us z.at_) W)→(∀y∈Z,∀z∈Z,y.fresh=true→z.fresh=true→y.at_≠z.at_→Ie (us y.at_)≠Ie (us z.at_))→
  (∀z∈Z,z.fresh=true→∃b,Ie (us z.at_)=some b∧w.heap.size≤b∧b<W.heap.size)→X9 P l Q S (done++Z.map (·.at_)) (X8 Z us a) W):X9 P l Q S done a w:=by
 simp only[D3j,Bool.and_eq_true,decide_eq_true_eq,List.all_eq_true,Bool.or_eq_true,List.mem_range,Bool.not_eq_true']at hB;obtain⟨⟨⟨⟨⟨⟨aE,aL⟩,bP⟩,aT⟩,bQ⟩,aX⟩,aM⟩:=hB;have aF:∀z∈Z,z.at_<l.length∧z.at_∉done∧∃o,l[z.at_]?=some o∧o.guard=none:=by
  intro z hz;obtain⟨h1,h2⟩:=bP z.at_ (List.mem_map_of_mem hz);cases ho:l[z.at_]? with
  | none=>rw[ho]at h2;cases h2
  | some o=>
   rw[ho]at h2;refine ⟨(List.getElem?_eq_some_iff.1 ho).1,fun h=>?_,o,rfl,by simpa using h2⟩;rw[List.contains_iff_mem.2 h]at h1;cases h1
 have aY:∀(m:Nat) (D:List Nat) (us:Nat→Value) (W:World),D.length+m=Z.length→D.Nodup→(∀i∈D,∃z∈Z,z.at_=i)→Below w.heap.size w W→
  (∀i o,l[i]?=some o→i∈done++D→∀e∈o.after,Region.binds .any e=true→e.on∈done++D)→
  (∀z∈Z,z.at_∈D→z.good (us z.at_) W)→(∀y∈Z,∀z∈Z,y.at_∈D→z.at_∈D→y.fresh=true→z.fresh=true→y.at_≠z.at_→Ie (us y.at_)≠Ie (us z.at_))→
  (∀z∈Z,z.at_∈D→z.fresh=true→∃b,Ie (us z.at_)=some b∧w.heap.size≤b∧b<W.heap.size)→X9 P l Q S (done++D) (X8 Z us a) W:=by
  intro m;induction m with
  | zero=>
   intro D us W hl aZ hD hW bB hg aG aN;have aB:∀z∈Z,z.at_∈D:=by
    intro z hz;apply Classical.byContradiction;intro hn;have aH:D ⊆ (Z.map (·.at_)).erase z.at_:=by
     intro i hi;obtain⟨y,hy,rfl⟩:=hD i hi;exact (List.mem_erase_of_ne (fun e=>hn (by rw[←e];exact hi))).2 (List.mem_map_of_mem hy)
    have h1:=Oc _ _ aZ aH;rw[List.length_erase_of_mem (List.mem_map_of_mem hz),List.length_map]at h1;have h2:0<Z.length:=List.length_pos_of_mem hz;omega
   have hp:∀i,i∈done++D↔i∈done++Z.map (·.at_):=by
    intro i;simp only[List.mem_append,List.mem_map];constructor
    ·rintro (h | h)
     ·exact .inl h
     ·exact .inr (hD i h)
    ·rintro (h | ⟨z,hz,rfl⟩)
     ·exact .inl h
     ·exact .inr (aB z hz)
   have h:=hr us W hW (fun z hz=>hg z hz (aB z hz)) (fun y hy z hz=>aG y hy z hz (aB y hy) (aB z hz)) (fun z hz=>aN z hz (aB z hz));unfold X9 at h ⊢;rw[Uu hp];rw[show (done++D).length=(done++Z.map (·.at_)).length by simp;omega];exact h
  | succ m ih=>
   intro D us W hl aZ hD hW bB hg aG aN;have bI:(done++D).length<l.length:=by simp only[List.length_append];rw[List.length_map]at aX;omega
   have bC:∀(i:Nat) (o:Oper),l[i]?=some o→(O8 l.length (done++D)).getD i false=true→∀e∈o.after,Region.binds .any e=true→(O8 l.length (done++D)).getD e.on false=true:=by intro i o ho hi e he hb;have aU:=(List.getElem?_eq_some_iff.1 ho).1;rw[Z7 _ _ _ _ aU]at hi;have h1:=bB i o ho (by simpa using hi) e he hb;have h2:=Ea aE ho e he hb;rw[Z7 _ _ _ _ (by omega)];simpa using h1
   have aO:∃z∈Z,z.at_∉D:=by
    apply Classical.byContradiction;intro hn;have aH:Z.map (·.at_) ⊆ D:=by
     intro i hi;obtain⟨z,hz,rfl⟩:=List.mem_map.1 hi;apply Classical.byContradiction;intro h;exact hn ⟨z,hz,h⟩
    have h1:=Oc _ _ aT aH;rw[List.length_map]at h1;omega
   obtain⟨z0,aJ,bJ⟩:=aO;have bR:Region.ready .any l.toArray (O8 l.length (done++D))≠[]:=by
    intro h;have h1:=Ni aE (Kf _ _) h z0.at_ (aF z0 aJ).1;rw[Z7 _ _ _ _ (aF z0 aJ).1]at h1;have h2:z0.at_∈done++D:=by simpa using h1
    rcases List.mem_append.1 h2 with h | h
    ·exact (aF z0 aJ).2.1 h
    ·exact bJ h
   refine Mt (rs:=Region.ready .any l.toArray (O8 l.length (done++D))) (by simp only[Eh,Bool.and_eq_true,beq_self_eq_true,decide_eq_true_eq,true_and];exact bI) bR fun i hi=>?_;obtain⟨h1,o,h2,h3⟩:=mem_ready.1 hi;have aI:l[i]?=some o:=by simpa using h2
   have aU:=(List.getElem?_eq_some_iff.1 aI).1;have bK:i∉done++D:=by rw[Z7 _ _ _ _ aU]at h1;simpa using h1
   have bS:∃z∈Z,z.at_=i:=by
    have hh:=aM i aU;rcases hh with (hh | hh) | hh
    ·exact absurd (List.mem_append_left _ (List.contains_iff_mem.1 hh)) bK
    ·obtain⟨z,hz,e⟩:=List.mem_map.1 (List.contains_iff_mem.1 hh);exact ⟨z,hz,e⟩
    ·have bT:=hh z0.at_ (List.mem_map_of_mem aJ);have bL:=Mu bC _ _ _ bT fun o' aD e he hb=>by
      rw[aI]at aD;injection aD with aD;subst aD;exact h3 e he hb
     rw[Z7 _ _ _ _ (aF z0 aJ).1]at bL;have h2:z0.at_∈done++D:=by simpa using bL
     rcases List.mem_append.1 h2 with h | h
     ·exact absurd h (aF z0 aJ).2.1
     ·exact absurd h bJ
   obtain⟨z,hz,rfl⟩:=bS;obtain⟨_,bU,oz,aV,bV⟩:=aF z hz;rw[aI]at aV;injection aV with aV;subst aV;have aC:∀e∈o.after,Region.binds .any e=true→e.on∈done++D:=by
    intro e he hb;have h4:=h3 e he hb;have h5:=Ea aE aI e he hb;rw[Z7 _ _ _ _ (by omega)]at h4;simpa using h4
   refine A6z aI (by unfold Region.wanted;rw[bV]) (fun Q' hQ'=>?_) bI;refine hstep z hz o aI us W hW (fun k y hk hy=>?_) Q' (fun v W' hb hgv hfv=>?_)
   ·have bM:y∈Z:=List.mem_of_getElem? hk;simp only[Array.any_eq_true',Bool.and_eq_true,beq_iff_eq]at hy;obtain⟨e,he,aW,bX⟩:=hy;have h6:=aC e he aW;rw[bX]at h6;rcases List.mem_append.1 h6 with h | h
    ·exact absurd h (aF y bM).2.1
    ·exact hg y bM h
   ·have bN:Below w.heap.size w W':=hW.trans (hb.mono hW.size);refine hQ' _ _ (hS _ bN) ?_;rw[Ol Z us a z v hz aT bQ,List.append_assoc];have bO:z.at_∉D:=fun h=>bK (List.mem_append_right _ h);have hu:∀y:Soup,y.at_∈D→Gb us z.at_ v y.at_=us y.at_:=fun y hy=>by
     have:y.at_≠z.at_:=fun e=>bO (by rw[←e];exact hy);simp[Gb,this]
    have aA:∀y∈Z,y.at_=z.at_→y=z:=fun y hy e=>A2k Z aT y hy z hz e;refine ih (D++[z.at_]) _ W' (by simp;omega) ?_ ?_ bN ?_ ?_ ?_ ?_
    ·rw[List.nodup_append];exact ⟨aZ,by simp,fun x hx y hy e=>bO (by simp at hy;rw[←hy,←e];exact hx)⟩
    ·intro i hi;rcases List.mem_append.1 hi with hi | hi
     ·exact hD i hi
     ·exact ⟨z,hz,(by simpa using hi:i=z.at_).symm⟩
    ·intro i o' aD hi e he aW;rw[←List.append_assoc]at hi ⊢;rcases List.mem_append.1 hi with hi | hi
     ·exact List.mem_append_left _ (bB i o' aD hi e he aW)
     ·have:i=z.at_:=by simpa using hi
      subst this;rw[aI]at aD;injection aD with aD;subst aD;exact List.mem_append_left _ (aC e he aW)
    ·intro y hy aP;rcases List.mem_append.1 aP with h | h
     ·rw[hu y h];exact hm y hy _ _ _ (hg y hy h) hb
     ·have:y.at_=z.at_:=by simpa using h
      have:=aA y hy this;subst this;simpa [Gb] using hgv
    ·intro y hy x hx aP bY aK bD aQ;rcases List.mem_append.1 aP with h | h<;>rcases List.mem_append.1 bY with h' | h'
     ·rw[hu y h,hu x h'];exact aG y hy x hx h h' aK bD aQ
     ·have:=aA x hx (by simpa using h');subst this;obtain⟨b,aR,bE,bF⟩:=hfv bD;obtain⟨c,aS,bG,bH⟩:=aN y hy h aK;rw[hu y h,aS,show Gb us x.at_ v x.at_=v by simp[Gb],aR];intro e;injection e with e;omega
     ·have:=aA y hy (by simpa using h);subst this;obtain⟨b,aR,bE,bF⟩:=hfv aK;obtain⟨c,aS,bG,bH⟩:=aN x hx h' bD;rw[hu x h',aS,show Gb us y.at_ v y.at_=v by simp[Gb],aR];intro e;injection e with e;omega
     ·exact absurd (by rw[aA y hy (by simpa using h),aA x hx (by simpa using h')]) aQ
    ·intro y hy aP aK;rcases List.mem_append.1 aP with h | h
     ·obtain⟨c,aS,bG,bH⟩:=aN y hy h aK;exact ⟨c,by rw[hu y h,aS],bG,Nat.lt_of_lt_of_le bH hb.size⟩
     ·have:=aA y hy (by simpa using h);subst this;obtain⟨b,aR,bE,bF⟩:=hfv aK;exact ⟨b,by simpa [Gb] using aR,Nat.le_trans hW.size bE,bF⟩
 obtain⟨us,bZ⟩:=Wx Z (fun z=>a.tmps.getD z.dst undef) aT;have h:=aY Z.length [] us w (by simp) (by simp) (by simp) (Below.refl _ _) (fun i o ho hi e he hb=>?_) (by simp) (by simp) (by simp)
 ·rw[Nf Z us a bZ,List.append_nil]at h;exact h
 ·rw[List.append_nil]at hi ⊢;unfold dcB at aL;have h1:=List.all_eq_true.1 aL i hi;rw[ho]at h1;have h2:=Array.all_eq_true_iff_forall_mem.1 h1 e he;rw[hb]at h2;exact List.contains_iff_mem.1 (by simpa using h2)
theorem Ed {a:Act} {w:World} {Z:List Soup} {i:Nat} {d:Tmp} {T:TypeId} {cs:List Value} {o:Oper} (hi:l[i]?=some o) (hd:o.dst=some d)
 (h:∀(ρ:Operand→Value) (W:World),(execOp ρ (E4 o)).run P W=.ok (.value (.pointer (some ⟨W.heap.size,0,none⟩))) (W.alloc (.cells cs.toArray T))):A0y P l a w Z (za i d T cs):=by
 intro o' aA us W hW hp Q' hQ';have:o'=o:=by
  have h1:l[i]?=some o':=aA;rw[hi]at h1;injection h1 with h1;exact h1.symm
 subst this;unfold wpList;rw[if_pos (by simp[Region.wanted,E4])];refine .inl ?_;unfold Oper.wp;rw[h,Oper.upon_value];show wpList P _ Q' [] _ _;have aB:(E4 o').dst=some d:=hd;rw[aB];exact hQ' _ _ ((Below.refl _ _).alloc (Nat.le_refl _) _) ⟨_,rfl,Bk.new W T cs⟩ (fun _=>⟨_,rfl,Nat.le_refl _,by simp⟩)
end
end
section
theorem Pi:∀(xs ys:List UInt64),xs.length=ys.length→((List.range xs.length).all fun i=>xs.getD i 0==ys.getD i 0)=(xs==ys)
 | [],[],_=>rfl
 | x::xs,y::ys,h=>by
  have ih:=Pi xs ys (by simpa using h);rw[List.length_cons,List.range_succ_eq_map,List.all_cons,List.all_map];simp only[List.getD_cons_zero,Function.comp_def,List.getD_cons_succ,ih];simp[List.cons_beq_cons]
 | [],_::_,h=>by simp at h
 | _::_,[],h=>by simp at h
section
variable {P : Program} (w : World)
theorem Ki (d:Nat) (t e:TypeId) (n:Nat) (ht:P.underlying t=some (.array n e)) (he:P.underlying e=some (.int .u64)) (hsz:∀w,(sizeOf e).run P w=.ok 1 w)
 (xs ys:List UInt64) (hx:xs.length=n) (hy:ys.length=n) :
 (Op.equalIn (d+2) t (.agg (xs.map Vp).toArray) (.agg (ys.map Vp).toArray)).run P w=.ok (xs==ys) w:=by
 rw[←Pi xs ys (hx.trans hy.symm),hx,List.range_eq_range',Op.equalIn];simp only[Sem.run_bind,run_underlying ht,Result.andThen_ok,hsz,Std.Legacy.Range.forIn_eq_forIn_range',Std.Legacy.Range.size,Nat.sub_zero,Nat.add_sub_cancel,Nat.div_one];have hl:∀i∈List.range' 0 n 1,i<n:=fun i hi=>by simpa using (List.mem_range'_1.1 hi).2
 generalize List.range' 0 n 1=l at hl ⊢;induction l with
 | nil=>simp
 | cons i l ih=>
  have hi:i<n:=hl i (by simp);have px:(part e (xs.map Vp).toArray (i*1)).run P w=.ok (Vp (xs.getD i 0)) w:=by simp[part,isAgg,run_underlying he,List.getD,List.getElem?_eq_getElem (show i<xs.length by omega)]
  have py:(part e (ys.map Vp).toArray (i*1)).run P w=.ok (Vp (ys.getD i 0)) w:=by simp[part,isAgg,run_underlying he,List.getD,List.getElem?_eq_getElem (show i<ys.length by omega)]
  have pe:(Op.equalIn (d+1) e (Vp (xs.getD i 0)) (Vp (ys.getD i 0))).run P w=.ok (xs.getD i 0==ys.getD i 0) w:=by rw[Vp,Vp,run_equalIn_int w d e .u64 .u64 _ _ he];congr 1;rw[Bool.eq_iff_iff];simp only[beq_iff_eq];exact ⟨fun h=>B3l (by unfold Vp;rw[h]),fun h=>by rw[h]⟩
  simp only[List.forIn_cons,Sem.run_bind,px,py,pe,Result.andThen_ok,List.all_cons];cases hb:(xs.getD i 0==ys.getD i 0)
  ·simp
  ·simp only[Bool.not_true,Bool.false_eq_true,if_false,Sem.run_pure,Result.andThen_ok,Bool.true_and];exact ih fun j hj=>hl j (by simp[hj])
end
theorem A9e (w:World):(sizeOf 117).run Tryz.prog w=.ok 1 w:=by kernel_rfl
theorem B4r (d:Nat) (w:World) (xs ys:List UInt64) (hx:xs.length=4) (hy:ys.length=4):(Op.equalIn (d+2) 182 (J7 xs) (J7 ys)).run Tryz.prog w=.ok (xs==ys) w:=
 Ki w d _ _ 4 Tryz.underlying182 Tryz.underlying117 A9e xs ys hx hy
theorem B4g (d:Nat) (w:World) (xs ys:List UInt64) (hx:xs.length=5) (hy:ys.length=5):(Op.equalIn (d+2) 136 (J7 xs) (J7 ys)).run Tryz.prog w=.ok (xs==ys) w:=
 Ki w d _ _ 5 Tryz.underlying136 Tryz.underlying117 A9e xs ys hx hy
theorem C6p:Tryz.prog.stoodInHeld 138=false:=by kernel_rfl
theorem C4g:Tryz.prog.stoodInHeld 140=false:=by kernel_rfl
theorem D0a (w:World):(sizeOf 136).run Tryz.prog w=.ok 5 w:=by kernel_rfl
theorem D1a (w:World):(sizeOf 138).run Tryz.prog w=.ok 5 w:=by kernel_rfl
theorem D2s (xs:List UInt64) (o:Nat) (w:World):(part 136 (C7 xs).toArray o).run Tryz.prog w=.ok (J7 ((xs.drop o).take 5)) w:=by
 simp[part,isAgg,run_underlying Tryz.underlying136,D0a,J7,C7,List.extract_eq_take_drop]
theorem Yv (xs:List UInt64) (o:Nat) (w:World):(part 138 (C7 xs).toArray o).run Tryz.prog w=.ok (J7 ((xs.drop o).take 5)) w:=by
 simp[part,isAgg,run_underlying Fp,D1a,J7,C7,List.extract_eq_take_drop]
def eqF (d:Nat) (xs ys:Array Value):List (Bool×TypeId×Nat)→Sem Bool
 | []=>pure true
 | (b,t,o)::fs=>
  if b=true then do
   let a ←part t xs o
   let b ←part t ys o
   let r ←Op.equalIn d t a b
   if (!r)=true then pure false else eqF d xs ys fs
  else eqF d xs ys fs
theorem Nh (d : Nat) (xs ys : Array Value) : ∀ fs : List Field, Op.eqFields d xs ys fs = eqF d xs ys (fs.map fun f => (decide (f.name ≠ "_"), f.type, f.offset))
 | []=>rfl
 | f::fs=>by
  simp only[Op.eqFields,List.map_cons,eqF,Nh d xs ys fs];by_cases h : f.name ≠ "_" <;> simp [h]
theorem D6b : ((Tryz.prog.fieldsOf 138).toList.map fun f => (decide (f.name ≠ "_"), f.type, f.offset)) = [(true, 136, 0)] := by kernel_rfl
theorem D5l : ((Tryz.prog.fieldsOf 140).toList.map fun f => (decide (f.name ≠ "_"), f.type, f.offset)) = [(true, 138, 0), (true, 138, 5), (true, 138, 10), (true, 138, 15)] := by kernel_rfl
theorem C4t:Tryz.prog.underlying 138=some (.struct (Tryz.prog.fieldsOf 138)):=by kernel_rfl
theorem C3y:Tryz.prog.underlying 140=some (.struct (Tryz.prog.fieldsOf 140)):=by kernel_rfl
theorem Ns (d:Nat) (w:World) (xs ys:List UInt64) (hx:xs.length=5) (hy:ys.length=5):(Op.equalIn (d+3) 138 (J7 xs) (J7 ys)).run Tryz.prog w=.ok (xs==ys) w:=by
 rw[J7,J7,run_equalIn_struct w (d+2) _ _ _ C4t C6p,Nh,D6b];simp only[eqF,if_true,Sem.run_bind,D2s,Result.andThen_ok,List.drop_zero];rw[List.take_of_length_le (by omega),List.take_of_length_le (by omega),B4g d w xs ys hx hy];cases h:xs==ys<;>simp
theorem D1r {xs ys:List UInt64} (hx:xs.length=20) (hy:ys.length=20):(xs==ys)=(xs.take 5==ys.take 5&&((xs.drop 5).take 5==(ys.drop 5).take 5&&((xs.drop 10).take 5==(ys.drop 10).take 5&&((xs.drop 15).take 5==(ys.drop 15).take 5)))):=by
 rw[Bool.eq_iff_iff];simp only[beq_iff_eq,Bool.and_eq_true];constructor
 ·rintro rfl;exact ⟨rfl,rfl,rfl,rfl⟩
 ·rintro ⟨h0,h1,h2,h3⟩;have e:∀l:List UInt64,l.length=20→l=l.take 5++((l.drop 5).take 5++((l.drop 10).take 5++(l.drop 15).take 5)):=by intro l hl;have a1:=(List.take_append_drop 5 l).symm;have a2:=(List.take_append_drop 5 (l.drop 5)).symm;have a3:=(List.take_append_drop 5 (l.drop 10)).symm;have a4:(l.drop 15).take 5=l.drop 15:=List.take_of_length_le (by simp;omega);rw[List.drop_drop]at a2 a3;rw[a4,←a3,←a2,←a1]
  rw[e xs hx,e ys hy,h0,h1,h2,h3]
theorem A1f (d:Nat) (w:World) (xs ys:List UInt64) (hx:xs.length=20) (hy:ys.length=20):(Op.equalIn (d+4) 140 (J7 xs) (J7 ys)).run Tryz.prog w=.ok (xs==ys) w:=by
 rw[J7,J7,run_equalIn_struct w (d+3) _ _ _ C3y C4g,Nh,D5l,D1r hx hy];simp only[eqF,if_true,Sem.run_bind,Yv,Result.andThen_ok,List.drop_zero];rw[Ns d w _ _ (by simp;omega) (by simp;omega)];cases h0:xs.take 5==ys.take 5
 ·simp
 simp only[Result.andThen_ok,Bool.not_true,Bool.false_eq_true,if_false,Sem.run_bind,Yv];rw[Ns d w _ _ (by simp;omega) (by simp;omega)];cases h1:(xs.drop 5).take 5==(ys.drop 5).take 5
 ·simp
 simp only[Result.andThen_ok,Bool.not_true,Bool.false_eq_true,if_false,Sem.run_bind,Yv];rw[Ns d w _ _ (by simp;omega) (by simp;omega)];cases h2:(xs.drop 10).take 5==(ys.drop 10).take 5
 ·simp
 simp only[Result.andThen_ok,Bool.not_true,Bool.false_eq_true,if_false,Sem.run_bind,Yv];rw[Ns d w _ _ (by simp;omega) (by simp;omega)];cases h3:(xs.drop 15).take 5==(ys.drop 15).take 5<;>simp
noncomputable def B0c (neg:Bool) (n:Nat) (w:World) (raw:Result Next) (a b:Value):Result Next:=
 match Ya a,Ya b with
 | some xs,some ys=>if xs.length=n∧ys.length=n then .ok (.value (.bool (neg != (xs==ys)))) w else raw
 | _,_=>raw
@[go_sem] theorem E6y (neg : Bool) (n : Nat) (w : World) (raw : Result Next) (xs ys : List UInt64) (hx : xs.length = n) (hy : ys.length = n) : B0c neg n w raw (J7 xs) (J7 ys) = .ok (.value (.bool (neg != (xs == ys)))) w := by
 unfold B0c;rw[Va,Va];exact if_pos ⟨hx,hy⟩
section
variable {P : Program} (w : World) (ρ : Operand → Value) (dst : Option Tmp) (ty : TypeId) (pos : String) (after : Array Edge) (guard : Option (Nat × Bool))
theorem C1f (t n:TypeId) (x y:Operand) (yt:TypeId) (hq:∀xs ys:List UInt64,xs.length=n→ys.length=n→(Op.equalIn 10000 t (J7 xs) (J7 ys)).run P w=.ok (xs==ys) w) (hg:P.eqGuardType P.depth t=false) :
 (execOp ρ { dst,op:=.binOp .eql t x y yt,type:=ty,pos,after,guard }).run P w=B0c false n w (M6 P ρ { dst,op:=.binOp .eql t x y yt,type:=ty,pos,after,guard } w) (ρ x) (ρ y):=by
 generalize hv:ρ x=a;generalize hz:ρ y=b;unfold B0c;split
 ·rename_i xs ys h1 h2
  replace h1:=Gi h1;replace h2:=Gi h2;split
  ·rename_i h
   have aA:(eqGuard .eql t x y a b).run P w=.ok () w:=by rw[h1,h2];exact run_eqGuard_agg (P:=P) w .eql t x y _ _ hg
   have e1:(binOp .eql t a b).run P w=.ok (.bool (xs==ys)) w:=by rw[h1,h2,J7,J7,run_eql_struct];exact congrArg (fun r:Result Bool=>r.andThen fun b w'=>Result.ok (Value.bool b) w') (hq xs ys h.1 h.2)
   simp only[execOp,hv,hz,Sem.run_bind,aA,Result.andThen_ok,e1,Sem.run_pure];simp
  ·rfl
 ·rfl
theorem B8x (t n:TypeId) (x y:Operand) (yt:TypeId) (hq:∀xs ys:List UInt64,xs.length=n→ys.length=n→(Op.equalIn 10000 t (J7 xs) (J7 ys)).run P w=.ok (xs==ys) w) (hg:P.eqGuardType P.depth t=false) :
 (execOp ρ { dst,op:=.binOp .neq t x y yt,type:=ty,pos,after,guard }).run P w=B0c true n w (M6 P ρ { dst,op:=.binOp .neq t x y yt,type:=ty,pos,after,guard } w) (ρ x) (ρ y):=by
 generalize hv:ρ x=a;generalize hz:ρ y=b;unfold B0c;split
 ·rename_i xs ys h1 h2
  replace h1:=Gi h1;replace h2:=Gi h2;split
  ·rename_i h
   have aA:(eqGuard .neq t x y a b).run P w=.ok () w:=by rw[h1,h2];exact run_eqGuard_agg (P:=P) w .neq t x y _ _ hg
   have e1:(binOp .neq t a b).run P w=.ok (.bool (!(xs==ys))) w:=by rw[h1,h2,J7,J7,run_neq_struct];exact congrArg (fun r:Result Bool=>r.andThen fun b w'=>Result.ok (Value.bool (!b)) w') (hq xs ys h.1 h.2)
   simp only[execOp,hv,hz,Sem.run_bind,aA,Result.andThen_ok,e1,Sem.run_pure];simp
  ·rfl
 ·rfl
end
section
variable (w : World) (ρ : Operand → Value) (dst : Option Tmp) (ty : TypeId) (pos : String) (after : Array Edge) (guard : Option (Nat × Bool))
@[go_sem ↓ high] theorem F1v (x y : Operand) (yt : TypeId) :
 (execOp ρ { dst,op:=.binOp .neq 182 x y yt,type:=ty,pos,after,guard }).run Tryz.prog w=B0c true 4 w (M6 Tryz.prog ρ { dst,op:=.binOp .neq 182 x y yt,type:=ty,pos,after,guard } w) (ρ x) (ρ y):=
 B8x w ρ dst ty pos after guard 182 4 x y yt (fun xs ys hx hy=>B4r 9998 w xs ys hx hy) (by kernel_rfl)
@[go_sem ↓ high] theorem F2n (x y : Operand) (yt : TypeId) :
 (execOp ρ { dst,op:=.binOp .eql 140 x y yt,type:=ty,pos,after,guard }).run Tryz.prog w=B0c false 20 w (M6 Tryz.prog ρ { dst,op:=.binOp .eql 140 x y yt,type:=ty,pos,after,guard } w) (ρ x) (ρ y):=
 C1f w ρ dst ty pos after guard 140 20 x y yt (fun xs ys hx hy=>A1f 9996 w xs ys hx hy) (by kernel_rfl)
end
structure Pn where
 x:List UInt64
 y:List UInt64
 z:List UInt64
 t:List UInt64
def Pn.row (p:Pn):List UInt64:=ptl p.x p.y p.z p.t
structure Pn.Ok (p : Pn) : Prop where
 x:p.x.length=5
 y:p.y.length=5
 z:p.z.length=5
 t:p.t.length=5
theorem Pn.Ok.row {p:Pn} (h:p.Ok):p.row.length=20:=B4u h.x h.y h.z h.t
section
variable {w : World} {g : Nat} {tt : TypeId} {p : Pn}
end
theorem Bk.put64 {w:World} {g:Nat} {t:TypeId} {l m:List UInt64} {n:Nat} (K:Bk w g t (C7 l)) (hl:l.length=n) (hm:m.length=n):Bk (C9 w ⟨g,0,none⟩ (C7 m)) g t (C7 m):=K.puts (by simp[hl,hm])
theorem Bk.put8 {w:World} {g:Nat} {t:TypeId} {l m:List UInt8} {n:Nat} (K:Bk w g t (c8 l)) (hl:l.length=n) (hm:m.length=n):Bk (C9 w ⟨g,0,none⟩ (c8 m)) g t (c8 m):=K.puts (by simp[hl,hm])
theorem Bk.can64 {w:World} {g:Nat} {t:TypeId} {l:List UInt64} {n:Nat} (K:Bk w g t (C7 l)) (hl:l.length=n):E8 w ⟨g,0,none⟩ n=true:=K.can (by simp[hl])
theorem Bk.can8 {w:World} {g:Nat} {t:TypeId} {l:List UInt8} {n:Nat} (K:Bk w g t (c8 l)) (hl:l.length=n):E8 w ⟨g,0,none⟩ n=true:=K.can (by simp[hl])
theorem C5 {Q':Exit→Act→World→Prop} {a a':Act} {w:World} (h:Q' .normal a w) (e:a=a'):Q' .normal a' w:=e▸h
def E0 (Z:List Soup) (us:Nat→Value) (l:List Value):List Value:=Z.foldl (fun l z=>l.set z.dst (us z.at_)) l
theorem C2:∀(Z:List Soup) (us:Nat→Value) (l:List Value) (ds:List Deferred),X8 Z us ⟨l.toArray,ds⟩=⟨(E0 Z us l).toArray,ds⟩
 | [],_,_,_=>rfl
 | z::Z,us,l,ds=>by
  show X8 Z us (Act.put ⟨l.toArray,ds⟩ (some z.dst) (us z.at_))=⟨(E0 Z us (l.set z.dst (us z.at_))).toArray,ds⟩;rw[←C2 Z us (l.set z.dst (us z.at_)) ds];unfold Act.put;simp
theorem Qq {v:Value} {p lo hi:Nat} (h:∃b,Ie v=some b∧lo≤b∧b<hi) (e:v=.pointer (some ⟨p,0,none⟩)):lo≤p∧p<hi:=by
 obtain⟨b,h1,h2,h3⟩:=h;subst e;injection h1 with h1;subst h1;exact ⟨h2,h3⟩
theorem D8b {v v':Value} {p p':Nat} (h:Ie v≠Ie v') (e:v=.pointer (some ⟨p,0,none⟩)) (e':v'=.pointer (some ⟨p',0,none⟩)):p≠p':=by
 subst e e';exact fun e=>h (by rw[e])
end
theorem P4' {w V : World} {g : Nat} {T : TypeId} {l m : List UInt64} (n : Nat) (h : V = C9 w ⟨g, 0, none⟩ (C7 m)) (k : Bk w g T (C7 l)) (e : l.length = n) (e2 : m.length = n) : Bk V g T (C7 m) := h ▸ Bk.put64 k e e2
theorem C4' {w : World} {g : Nat} {T : TypeId} {l : List UInt64} (n : Nat) (k : Bk w g T (C7 l)) (e : l.length = n) : E8 w ⟨g, 0, none⟩ n = true := Bk.can64 k e
theorem FE' {Q' : Exit → Act → World → Prop} {a a' : Act} {w : World} (h : Q' .normal a w) (e : a = a' := by kernel_rfl) : Q' .normal a' w := e ▸ h
theorem MO' {P : Prop} (h : P := by
  repeat (first | exact FN' | refine FC' ⟨by first | exact H7 _ _ _ | exact Ir _ _ _ _ | exact zs_mono _ _ _ _ | exact zp_mono _ _ _ | exact zb_mono _ _ _ | exact zk_mono _ _ _ | exact zl_mono _ _ _, ?_⟩)) : P := h
theorem RP' {P Q : Prop} (q : Q) (h : Q → P := by
  intro q
  rw [C2]
  dsimp only [E0, List.foldl, zv, za]
  simp only [List.set_cons_succ, List.set_cons_zero]
  exact q) : P := h q
theorem KC' {Q : World → Prop} {P : Prop} (c : ∀ W, Q W) (h : (∀ W, Q W) → P := by
  intro c o ho us W hW hp Q' hQ'
  obtain rfl := Option.some.inj ho
  clear hp ho
  rw [C2] at hQ' ⊢
  dsimp only [E4, E0, List.foldl, zv, za] at hQ' ⊢
  simp only [List.set_cons_succ, List.set_cons_zero]
  go_wp2_with fail
  refine (c W).mono ?_
  rintro e W2 ⟨rfl, b2⟩
  go_wp2_with fail
  exact C5 (hQ' _ _ b2 rfl (fun h => by cases h)) (by kernel_rfl)) : P := h c
theorem F2w {Q : World → Prop} {P : Prop} (c : ∀ W, Q W) (h : (∀ W, Q W) → P := by
  intro c o ho us W hW hp Q' hQ'
  obtain rfl := Option.some.inj ho
  have g0 := hp 0 _ rfl (by kernel_rfl)
  clear hp ho
  rw [C2] at hQ' ⊢
  dsimp only [E4, E0, List.foldl, zv, za] at hQ' ⊢
  simp only [List.set_cons_succ, List.set_cons_zero]
  dsimp only [zv] at g0
  rw [g0] at hQ' ⊢
  clear g0
  go_wp2_with fail
  refine (c W).mono ?_
  rintro e W2 ⟨rfl, b2⟩
  go_wp2_with fail
  exact C5 (hQ' _ _ b2 rfl (fun h => by cases h)) (by kernel_rfl)) : P := h c
theorem F2x {Q : World → Prop} {P : Prop} (c : ∀ W, Q W) (h : (∀ W, Q W) → P := by
  intro c o ho us W hW hp Q' hQ'
  obtain rfl := Option.some.inj ho
  have g1 := hp 1 _ rfl (by kernel_rfl)
  clear hp ho
  rw [C2] at hQ' ⊢
  dsimp only [E4, E0, List.foldl, zv, za] at hQ' ⊢
  simp only [List.set_cons_succ, List.set_cons_zero]
  dsimp only [zv] at g1
  rw [g1] at hQ' ⊢
  clear g1
  go_wp2_with fail
  refine (c W).mono ?_
  rintro e W2 ⟨rfl, b2⟩
  go_wp2_with fail
  exact C5 (hQ' _ _ b2 rfl (fun h => by cases h)) (by kernel_rfl)) : P := h c
theorem F2z {Q : World → Prop} {P : Prop} (c : ∀ W, Q W) (h : (∀ W, Q W) → P := by
  intro c o ho us W hW hp Q' hQ'
  obtain rfl := Option.some.inj ho
  have g2 := hp 2 _ rfl (by kernel_rfl)
  clear hp ho
  rw [C2] at hQ' ⊢
  dsimp only [E4, E0, List.foldl, zv, za] at hQ' ⊢
  simp only [List.set_cons_succ, List.set_cons_zero]
  dsimp only [zv] at g2
  rw [g2] at hQ' ⊢
  clear g2
  go_wp2_with fail
  refine (c W).mono ?_
  rintro e W2 ⟨rfl, b2⟩
  go_wp2_with fail
  exact C5 (hQ' _ _ b2 rfl (fun h => by cases h)) (by kernel_rfl)) : P := h c
theorem F2p {Q : World → Prop} {P : Prop} (c : ∀ W, Q W) (h : (∀ W, Q W) → P := by
  intro c o ho us W hW hp Q' hQ'
  obtain rfl := Option.some.inj ho
  have g0 := hp 0 _ rfl (by kernel_rfl)
  have g1 := hp 1 _ rfl (by kernel_rfl)
  clear hp ho
  rw [C2] at hQ' ⊢
  dsimp only [E4, E0, List.foldl, zv, za] at hQ' ⊢
  simp only [List.set_cons_succ, List.set_cons_zero]
  dsimp only [zv] at g0 g1
  rw [g0, g1] at hQ' ⊢
  clear g0 g1
  go_wp2_with fail
  refine (c W).mono ?_
  rintro e W2 ⟨rfl, b2⟩
  go_wp2_with fail
  exact C5 (hQ' _ _ b2 rfl (fun h => by cases h)) (by kernel_rfl)) : P := h c
theorem F1t {Q : World → Prop} {P : Prop} (c : ∀ W, Q W) (h : (∀ W, Q W) → P := by
  intro c o ho us W hW hp Q' hQ'
  obtain rfl := Option.some.inj ho
  have g0 := hp 0 _ rfl (by kernel_rfl)
  have g1 := hp 1 _ rfl (by kernel_rfl)
  have g2 := hp 2 _ rfl (by kernel_rfl)
  clear hp ho
  rw [C2] at hQ' ⊢
  dsimp only [E4, E0, List.foldl, zv, za] at hQ' ⊢
  simp only [List.set_cons_succ, List.set_cons_zero]
  dsimp only [zv] at g0 g1 g2
  rw [g0, g1, g2] at hQ' ⊢
  clear g0 g1 g2
  go_wp2_with fail
  refine (c W).mono ?_
  rintro e W2 ⟨rfl, b2⟩
  go_wp2_with fail
  exact C5 (hQ' _ _ b2 rfl (fun h => by cases h)) (by kernel_rfl)) : P := h c
end Go.Proofs.YtlegpkdighoflaaGreat
