/- A part of the proof of ClientForks. -/
import Derived.Outline
import Derived.Test.YtdfpoofbgjilgaaGreatVae
set_option linter.unusedVariables false
set_option linter.unusedSimpArgs false
set_option maxRecDepth 100000
set_option maxHeartbeats 40000000
namespace Go.Proofs.YtdfpoofbgjilgaaGreat
open Go Go.RowKit Sh
section
def Cu:Value→Option Nat
 | .pointer (some ⟨b,_,_⟩)=>some b
 | .slice (some ⟨b,_,_⟩) _ _=>some b
 | _=>none
structure Soup where
 at_:Nat
 dst:Tmp
 good:Value→World→Prop
 fresh:Bool
def zv (i:Nat) (d:Tmp) (x:Value):Soup:=⟨i,d,fun v _=>v=x,false⟩
def za (i:Nat) (d:Tmp) (T:TypeId) (cs:List Value):Soup:=⟨i,d,fun v w=>∃p,v=.pointer (some ⟨p,0,none⟩)∧Bk w p T cs,true⟩
def Soup.mono (z:Soup):Prop:=∀v W W',z.good v W→Below W.heap.size W W'→z.good v W'
theorem P8 (i:Nat) (d:Tmp) (x:Value):(zv i d x).mono:=fun _ _ _ h _=>h
theorem Fo (n:Nat) (L:List Nat):(J0 n L).size=n:=by
 unfold J0;have h:∀(L:List Nat) (m:Array Bool),(L.foldl (fun m i=>m.setIfInBounds i true) m).size=m.size:=by
  intro L;induction L with
  | nil=>intro m;rfl
  | cons i L ih=>intro m;simp only[List.foldl_cons];rw[ih];simp
 rw[h];simp
theorem Qn (n:Nat) (L:List Nat) (i:Nat) (h:i<n):(J0 n L)[i]?=some (decide (i∈L)):=by
 unfold J0;have hh:∀(L:List Nat) (m:Array Bool),i<m.size→(L.foldl (fun m i=>m.setIfInBounds i true) m)[i]?=some (decide (i∈L)||m.getD i false):=by
  intro L;induction L with
  | nil=>intro m hm;simp[hm]
  | cons k L ih=>
   intro m hm;simp only[List.foldl_cons];rw[ih _ (by simpa using hm)];by_cases hk:k=i
   ·subst hk;simp[hm]
   ·have:¬ i=k:=fun e=>hk e.symm;simp[hk,this,hm]
 rw[hh L _ (by simpa using h)];simp[h]
theorem J8 (n:Nat) (L:List Nat) (i:Nat) (b:Bool) (h:i<n):(J0 n L).getD i b=decide (i∈L):=by
 have:=Qn n L i h;rw[Array.getD_eq_getD_getElem?,this];rfl
theorem Ds {n:Nat} {L L':List Nat} (h:∀i,i∈L↔i∈L'):J0 n L=J0 n L':=by
 apply Array.ext_getElem?;intro i;by_cases hi:i<n
 ·rw[Qn n L i hi,Qn n L' i hi];simp[h i]
 ·rw[Array.getElem?_eq_none (by rw[Fo];omega),Array.getElem?_eq_none (by rw[Fo];omega)]
def Uz (l:List Oper):Nat→Nat→Nat→Bool
 | 0,_,_=>false
 | k+1,r,z=>match l[r]? with
  | some o=>o.after.any (fun e=>Region.binds .any e&&e.on==z)||o.after.any (fun e=>Region.binds .any e&&Uz l k e.on z)
  | none=>false
def dcB (l:List Oper) (L:List Nat):Bool:=L.all fun i=>match l[i]? with
 | some o=>o.after.all fun e=>!Region.binds .any e||L.contains e.on
 | none=>false
def D8k (l:List Oper) (done zs:List Nat) (ds:List Nat):Bool:=
 inOrder l&&dcB l done&&zs.all (fun z=>!done.contains z&&(match l[z]? with | some o=>o.guard==none | none=>false))&&decide zs.Nodup&&decide ds.Nodup&&decide (done.length+zs.length≤l.length)
  && (List.range l.length).all fun r=>done.contains r||zs.contains r||zs.all fun z=>Uz l l.length r z
def C8w (l:List Oper) (done zs:List Nat) (ds:List Nat) (f:Nat):Bool:=
 inOrder l&&dcB l done&&zs.all (fun z=>!done.contains z&&(match l[z]? with | some o=>o.guard==none | none=>false))&&decide zs.Nodup&&decide ds.Nodup&&decide (done.length+zs.length≤l.length)
  && (List.range l.length).all fun r=>done.contains r||zs.contains r||zs.all fun z=>decide (z=f)||Uz l l.length r z
def L3 (Z:List Soup) (us:Nat→Value) (a:Act):Act:=Z.foldl (fun a z=>a.put (some z.dst) (us z.at_)) a
def Ap (us:Nat→Value) (i:Nat) (v:Value):Nat→Value:=fun j=>if j=i then v else us j
theorem D0x (a:Act) {d d':Tmp} (h:d≠d') (v v':Value):(a.put (some d) v).put (some d') v'=(a.put (some d') v').put (some d) v:=by
 unfold Act.put;simp only;rw[Array.setIfInBounds_comm _ _ h]
theorem C7p (a:Act) (d:Tmp) (u v:Value):(a.put (some d) u).put (some d) v=a.put (some d) v:=by
 unfold Act.put;simp only;congr 1;simp
theorem Wr:∀(Z:List Soup) (us:Nat→Value) (a:Act) (d:Tmp) (v:Value),d∉Z.map (·.dst)→(L3 Z us a).put (some d) v=L3 Z us (a.put (some d) v)
 | [],_,_,_,_,_=>rfl
 | z::Z,us,a,d,v,h=>by
  simp only[List.map_cons,List.mem_cons,not_or]at h;show (L3 Z us (a.put (some z.dst) (us z.at_))).put (some d) v=L3 Z us ((a.put (some d) v).put (some z.dst) (us z.at_));rw[Wr Z us _ d v h.2,D0x _ (Ne.symm h.1)]
theorem Sx:∀(Z:List Soup) (us:Nat→Value) (a:Act),(L3 Z us a).tmps.size=a.tmps.size
 | [],_,_=>rfl
 | z::Z,us,a=>by
  show (L3 Z us (a.put (some z.dst) (us z.at_))).tmps.size=_;rw[Sx Z us,Tw]
theorem Px:∀(Z:List Soup) (us us':Nat→Value) (a:Act),(∀z∈Z,us z.at_=us' z.at_)→L3 Z us a=L3 Z us' a
 | [],_,_,_,_=>rfl
 | z::Z,us,us',a,h=>by
  show L3 Z us (a.put (some z.dst) (us z.at_))=L3 Z us' (a.put (some z.dst) (us' z.at_));rw[h z (by simp),Px Z us us' _ fun y hy=>h y (by simp[hy])]
theorem Fd:∀(Z:List Soup) (us:Nat→Value) (a:Act) (z:Soup) (v:Value),z∈Z→(Z.map (·.at_)).Nodup→(Z.map (·.dst)).Nodup→(L3 Z us a).put (some z.dst) v=L3 Z (Ap us z.at_ v) a
 | y::Z,us,a,z,v,hz,h1,h2=>by
  simp only[List.map_cons,List.nodup_cons]at h1 h2;rcases List.mem_cons.1 hz with rfl | hz
  ·show (L3 Z us (a.put (some z.dst) (us z.at_))).put (some z.dst) v=L3 Z (Ap us z.at_ v) (a.put (some z.dst) (Ap us z.at_ v z.at_));rw[Wr Z us _ _ v h2.1,C7p,show Ap us z.at_ v z.at_=v by simp[Ap]];refine Px Z _ _ _ fun y hy=>?_;have:y.at_≠z.at_:=fun e=>h1.1 (by rw[←e];exact List.mem_map_of_mem hy);simp[Ap,this]
  ·show (L3 Z us (a.put (some y.dst) (us y.at_))).put (some z.dst) v=L3 Z (Ap us z.at_ v) (a.put (some y.dst) (Ap us z.at_ v y.at_));have:y.at_≠z.at_:=fun e=>h1.1 (by rw[e];exact List.mem_map_of_mem hz);rw[show Ap us z.at_ v y.at_=us y.at_ by simp[Ap,this]];exact Fd Z us _ z v hz h1.2 h2.2
theorem Gh:∀(Z:List Soup) (us:Nat→Value) (a:Act),(∀z∈Z,us z.at_=a.tmps.getD z.dst undef)→L3 Z us a=a
 | [],_,_,_=>rfl
 | z::Z,us,a,h=>by
  show L3 Z us (a.put (some z.dst) (us z.at_))=a;have e:a.put (some z.dst) (us z.at_)=a:=by
   rw[h z (by simp)];unfold Act.put;have:a.tmps.setIfInBounds z.dst (a.tmps.getD z.dst undef)=a.tmps:=by
    apply Array.ext_getElem?;intro i;by_cases hi:z.dst<a.tmps.size
    ·by_cases hiz:z.dst=i
     ·subst hiz;simp[hi]
     ·simp[hiz]
    ·simp[Array.setIfInBounds,hi]
   simp only[this]
  rw[e];exact Gh Z us a fun y hy=>h y (by simp[hy])
theorem Po:∀(Z:List Soup) (g:Soup→Value),(Z.map (·.at_)).Nodup→∃us:Nat→Value,∀z∈Z,us z.at_=g z
 | [],_,_=>⟨fun _=>undef,fun z h=>by cases h⟩
 | z::Z,g,h=>by
  simp only[List.map_cons,List.nodup_cons]at h;obtain⟨us,hu⟩:=Po Z g h.2;refine ⟨Ap us z.at_ (g z),fun y hy=>?_⟩;rcases List.mem_cons.1 hy with rfl | hy
  ·simp[Ap]
  ·have:y.at_≠z.at_:=fun e=>h.1 (by rw[←e];exact List.mem_map_of_mem hy);simp[Ap,this,hu y hy]
theorem Ec:∀(L L':List Nat),L.Nodup→(∀i∈L,i∈L')→L.length≤L'.length
 | [],_,_,_=>Nat.zero_le _
 | x::L,L',h,hs=>by
  simp only[List.nodup_cons]at h;have h1:=Ec L (L'.erase x) h.2 fun i hi=>(List.mem_erase_of_ne (fun e=>h.1 (by rw[←e];exact hi))).2 (hs i (by simp[hi]));have h2:=hs x (by simp);rw[List.length_erase_of_mem h2]at h1;have h3:0<L'.length:=List.length_pos_of_mem h2;simp only[List.length_cons];omega
theorem Lz:∀(Z:List Soup),(Z.map (·.at_)).Nodup→∀y∈Z,∀z∈Z,y.at_=z.at_→y=z
 | x::Z,h,y,hy,z,hz,e=>by
  simp only[List.map_cons,List.nodup_cons]at h;rcases List.mem_cons.1 hy with h1 | h1<;>rcases List.mem_cons.1 hz with h2 | h2
  ·rw[h1,h2]
  ·exact absurd (by rw[←h1,e];exact List.mem_map_of_mem h2) h.1
  ·exact absurd (by rw[←h2,←e];exact List.mem_map_of_mem h1) h.1
  ·exact Lz Z h.2 y h1 z h2 e
section
variable {P : Program} {l : List Oper} {Q : Exit → Act → World → Prop} {S : World → Prop}
theorem Gf {listed:Array Bool} (hdc:∀(i:Nat) (o:Oper),l[i]?=some o→listed.getD i false=true→∀e∈o.after,Region.binds .any e=true→listed.getD e.on false=true) :
 ∀(k r z:Nat),Uz l k r z=true→(∀o,l[r]?=some o→∀e∈o.after,Region.binds .any e=true→listed.getD e.on false=true)→listed.getD z false=true
 | 0,_,_,h,_=>by cases h
 | k+1,r,z,h,hr=>by
  unfold Uz at h;cases ho:l[r]? with
  | none=>rw[ho]at h;cases h
  | some o=>
   rw[ho]at h;simp only[Bool.or_eq_true,Array.any_eq_true',Bool.and_eq_true,beq_iff_eq]at h;rcases h with ⟨e,he,hb,rfl⟩ | ⟨e,he,hb,h⟩
   ·exact hr o ho e he hb
   ·exact Gf hdc k e.on z h fun o' ho'=>hdc e.on o' ho' (hr o ho e he hb)
def B1i (P:Program) (l:List Oper) (a:Act) (w:World) (Z:List Soup) (z:Soup):Prop:=
 ∀o,l[z.at_]?=some o→∀us W,Below w.heap.size w W→(∀(k:Nat) (y:Soup),Z[k]?=some y→(o.after.any fun e=>Region.binds .any e&&e.on==y.at_)=true→y.good (us y.at_) W)→
  ∀Q':Exit→Act→World→Prop,(∀v W',Below W.heap.size W W'→z.good v W'→(z.fresh=true→∃b,Cu v=some b∧W.heap.size≤b∧b<W'.heap.size)→Q' .normal ((L3 Z us a).put (some z.dst) v) W')→wpList P #[E5 o] Q' [E5 o] (L3 Z us a) W
theorem Bm {done:List Nat} {a:Act} {w:World} (Z:List Soup) (hB:D8k l done (Z.map (·.at_)) (Z.map (·.dst))=true)
 (hS:∀W,Below w.heap.size w W→S W) (hm:∀z∈Z,z.mono) (hstep:∀z∈Z,B1i P l a w Z z)
 (hr:∀us W,Below w.heap.size w W→(∀z∈Z,z.good (us z.at_) W)→(∀y∈Z,∀z∈Z,y.fresh=true→z.fresh=true→y.at_≠z.at_→Cu (us y.at_)≠Cu (us z.at_))→
  (∀z∈Z,z.fresh=true→∃b,Cu (us z.at_)=some b∧w.heap.size≤b∧b<W.heap.size)→P6 P l Q S (done++Z.map (·.at_)) (L3 Z us a) W):P6 P l Q S done a w:=by
 simp only[D8k,Bool.and_eq_true,decide_eq_true_eq,List.all_eq_true,Bool.or_eq_true,List.mem_range,Bool.not_eq_true']at hB;obtain⟨⟨⟨⟨⟨⟨aE,aL⟩,bO⟩,aT⟩,bP⟩,aX⟩,aM⟩:=hB;have aF:∀z∈Z,z.at_<l.length∧z.at_∉done∧∃o,l[z.at_]?=some o∧o.guard=none:=by
  intro z hz;obtain⟨h1,h2⟩:=bO z.at_ (List.mem_map_of_mem hz);cases ho:l[z.at_]? with
  | none=>rw[ho]at h2;cases h2
  | some o=>
   rw[ho]at h2;refine ⟨(List.getElem?_eq_some_iff.1 ho).1,fun h=>?_,o,rfl,by simpa using h2⟩;rw[List.contains_iff_mem.2 h]at h1;cases h1
 have aY:∀(m:Nat) (D:List Nat) (us:Nat→Value) (W:World),D.length+m=Z.length→D.Nodup→(∀i∈D,∃z∈Z,z.at_=i)→Below w.heap.size w W→
  (∀i o,l[i]?=some o→i∈done++D→∀e∈o.after,Region.binds .any e=true→e.on∈done++D)→
  (∀z∈Z,z.at_∈D→z.good (us z.at_) W)→(∀y∈Z,∀z∈Z,y.at_∈D→z.at_∈D→y.fresh=true→z.fresh=true→y.at_≠z.at_→Cu (us y.at_)≠Cu (us z.at_))→
  (∀z∈Z,z.at_∈D→z.fresh=true→∃b,Cu (us z.at_)=some b∧w.heap.size≤b∧b<W.heap.size)→P6 P l Q S (done++D) (L3 Z us a) W:=by
  intro m;induction m with
  | zero=>
   intro D us W hl aZ hD hW bA hg aG aN;have aB:∀z∈Z,z.at_∈D:=by
    intro z hz;apply Classical.byContradiction;intro hn;have aH:D ⊆ (Z.map (·.at_)).erase z.at_:=by
     intro i hi;obtain⟨y,hy,rfl⟩:=hD i hi;exact (List.mem_erase_of_ne (fun e=>hn (by rw[←e];exact hi))).2 (List.mem_map_of_mem hy)
    have h1:=Ec _ _ aZ aH;rw[List.length_erase_of_mem (List.mem_map_of_mem hz),List.length_map]at h1;have h2:0<Z.length:=List.length_pos_of_mem hz;omega
   have hp:∀i,i∈done++D↔i∈done++Z.map (·.at_):=by
    intro i;simp only[List.mem_append,List.mem_map];constructor
    ·rintro (h | h)
     ·exact .inl h
     ·exact .inr (hD i h)
    ·rintro (h | ⟨z,hz,rfl⟩)
     ·exact .inl h
     ·exact .inr (aB z hz)
   have h:=hr us W hW (fun z hz=>hg z hz (aB z hz)) (fun y hy z hz=>aG y hy z hz (aB y hy) (aB z hz)) (fun z hz=>aN z hz (aB z hz));unfold P6 at h ⊢;rw[Ds hp];rw[show (done++D).length=(done++Z.map (·.at_)).length by simp;omega];exact h
  | succ m ih=>
   intro D us W hl aZ hD hW bA hg aG aN;have bH:(done++D).length<l.length:=by simp only[List.length_append];rw[List.length_map]at aX;omega
   have bB:∀(i:Nat) (o:Oper),l[i]?=some o→(J0 l.length (done++D)).getD i false=true→∀e∈o.after,Region.binds .any e=true→(J0 l.length (done++D)).getD e.on false=true:=by intro i o ho hi e he hb;have aU:=(List.getElem?_eq_some_iff.1 ho).1;rw[J8 _ _ _ _ aU]at hi;have h1:=bA i o ho (by simpa using hi) e he hb;have h2:=Ac aE ho e he hb;rw[J8 _ _ _ _ (by omega)];simpa using h1
   have aO:∃z∈Z,z.at_∉D:=by
    apply Classical.byContradiction;intro hn;have aH:Z.map (·.at_) ⊆ D:=by
     intro i hi;obtain⟨z,hz,rfl⟩:=List.mem_map.1 hi;apply Classical.byContradiction;intro h;exact hn ⟨z,hz,h⟩
    have h1:=Ec _ _ aT aH;rw[List.length_map]at h1;omega
   obtain⟨z0,aJ,bI⟩:=aO;have bQ:Region.ready .any l.toArray (J0 l.length (done++D))≠[]:=by
    intro h;have h1:=Gx aE (Fo _ _) h z0.at_ (aF z0 aJ).1;rw[J8 _ _ _ _ (aF z0 aJ).1]at h1;have h2:z0.at_∈done++D:=by simpa using h1
    rcases List.mem_append.1 h2 with h | h
    ·exact (aF z0 aJ).2.1 h
    ·exact bI h
   refine Ki (rs:=Region.ready .any l.toArray (J0 l.length (done++D))) (by simp only[Ey,Bool.and_eq_true,beq_self_eq_true,decide_eq_true_eq,true_and];exact bH) bQ fun i hi=>?_;obtain⟨h1,o,h2,h3⟩:=mem_ready.1 hi;have aI:l[i]?=some o:=by simpa using h2
   have aU:=(List.getElem?_eq_some_iff.1 aI).1;have bJ:i∉done++D:=by rw[J8 _ _ _ _ aU]at h1;simpa using h1
   have bR:∃z∈Z,z.at_=i:=by
    have hh:=aM i aU;rcases hh with (hh | hh) | hh
    ·exact absurd (List.mem_append_left _ (List.contains_iff_mem.1 hh)) bJ
    ·obtain⟨z,hz,e⟩:=List.mem_map.1 (List.contains_iff_mem.1 hh);exact ⟨z,hz,e⟩
    ·have bS:=hh z0.at_ (List.mem_map_of_mem aJ);have bK:=Gf bB _ _ _ bS fun o' aD e he hb=>by
      rw[aI]at aD;injection aD with aD;subst aD;exact h3 e he hb
     rw[J8 _ _ _ _ (aF z0 aJ).1]at bK;have h2:z0.at_∈done++D:=by simpa using bK
     rcases List.mem_append.1 h2 with h | h
     ·exact absurd h (aF z0 aJ).2.1
     ·exact absurd h bI
   obtain⟨z,hz,rfl⟩:=bR;obtain⟨_,bT,oz,aV,bU⟩:=aF z hz;rw[aI]at aV;injection aV with aV;subst aV;have aC:∀e∈o.after,Region.binds .any e=true→e.on∈done++D:=by
    intro e he hb;have h4:=h3 e he hb;have h5:=Ac aE aI e he hb;rw[J8 _ _ _ _ (by omega)]at h4;simpa using h4
   refine Ya aI (by unfold Region.wanted;rw[bU]) (fun Q' hQ'=>?_) bH;refine hstep z hz o aI us W hW (fun k y hk hy=>?_) Q' (fun v W' hb hgv hfv=>?_)
   ·have bL:y∈Z:=List.mem_of_getElem? hk;simp only[Array.any_eq_true',Bool.and_eq_true,beq_iff_eq]at hy;obtain⟨e,he,aW,bW⟩:=hy;have h6:=aC e he aW;rw[bW]at h6;rcases List.mem_append.1 h6 with h | h
    ·exact absurd h (aF y bL).2.1
    ·exact hg y bL h
   ·have bM:Below w.heap.size w W':=hW.trans (hb.mono hW.size);refine hQ' _ _ (hS _ bM) ?_;rw[Fd Z us a z v hz aT bP,List.append_assoc];have bN:z.at_∉D:=fun h=>bJ (List.mem_append_right _ h);have hu:∀y:Soup,y.at_∈D→Ap us z.at_ v y.at_=us y.at_:=fun y hy=>by
     have:y.at_≠z.at_:=fun e=>bN (by rw[←e];exact hy);simp[Ap,this]
    have aA:∀y∈Z,y.at_=z.at_→y=z:=fun y hy e=>Lz Z aT y hy z hz e;refine ih (D++[z.at_]) _ W' (by simp;omega) ?_ ?_ bM ?_ ?_ ?_ ?_
    ·rw[List.nodup_append];exact ⟨aZ,by simp,fun x hx y hy e=>bN (by simp at hy;rw[←hy,←e];exact hx)⟩
    ·intro i hi;rcases List.mem_append.1 hi with hi | hi
     ·exact hD i hi
     ·exact ⟨z,hz,(by simpa using hi:i=z.at_).symm⟩
    ·intro i o' aD hi e he aW;rw[←List.append_assoc]at hi ⊢;rcases List.mem_append.1 hi with hi | hi
     ·exact List.mem_append_left _ (bA i o' aD hi e he aW)
     ·have:i=z.at_:=by simpa using hi
      subst this;rw[aI]at aD;injection aD with aD;subst aD;exact List.mem_append_left _ (aC e he aW)
    ·intro y hy aP;rcases List.mem_append.1 aP with h | h
     ·rw[hu y h];exact hm y hy _ _ _ (hg y hy h) hb
     ·have:y.at_=z.at_:=by simpa using h
      have:=aA y hy this;subst this;simpa [Ap] using hgv
    ·intro y hy x hx aP bX aK bC aQ;rcases List.mem_append.1 aP with h | h<;>rcases List.mem_append.1 bX with h' | h'
     ·rw[hu y h,hu x h'];exact aG y hy x hx h h' aK bC aQ
     ·have:=aA x hx (by simpa using h');subst this;obtain⟨b,aR,bD,bE⟩:=hfv bC;obtain⟨c,aS,bF,bG⟩:=aN y hy h aK;rw[hu y h,aS,show Ap us x.at_ v x.at_=v by simp[Ap],aR];intro e;injection e with e;omega
     ·have:=aA y hy (by simpa using h);subst this;obtain⟨b,aR,bD,bE⟩:=hfv aK;obtain⟨c,aS,bF,bG⟩:=aN x hx h' bC;rw[hu x h',aS,show Ap us y.at_ v y.at_=v by simp[Ap],aR];intro e;injection e with e;omega
     ·exact absurd (by rw[aA y hy (by simpa using h),aA x hx (by simpa using h')]) aQ
    ·intro y hy aP aK;rcases List.mem_append.1 aP with h | h
     ·obtain⟨c,aS,bF,bG⟩:=aN y hy h aK;exact ⟨c,by rw[hu y h,aS],bF,Nat.lt_of_lt_of_le bG hb.size⟩
     ·have:=aA y hy (by simpa using h);subst this;obtain⟨b,aR,bD,bE⟩:=hfv aK;exact ⟨b,by simpa [Ap] using aR,Nat.le_trans hW.size bD,bE⟩
 obtain⟨us,bY⟩:=Po Z (fun z=>a.tmps.getD z.dst undef) aT;have h:=aY Z.length [] us w (by simp) (by simp) (by simp) (Below.refl _ _) (fun i o ho hi e he hb=>?_) (by simp) (by simp) (by simp)
 ·rw[Gh Z us a bY,List.append_nil]at h;exact h
 ·rw[List.append_nil]at hi ⊢;unfold dcB at aL;have h1:=List.all_eq_true.1 aL i hi;rw[ho]at h1;have h2:=Array.all_eq_true_iff_forall_mem.1 h1 e he;rw[hb]at h2;exact List.contains_iff_mem.1 (by simpa using h2)
end
end
section
def D0v (l:List Oper) (done zs:List Nat) (ds:List Nat):Bool:=
 inOrder l&&dcB l done&&zs.all (fun z=>!done.contains z&&(match l[z]? with | some _=>true | none=>false))&&decide zs.Nodup&&decide ds.Nodup&&decide (done.length+zs.length≤l.length)
  && (List.range l.length).all fun r=>done.contains r||zs.contains r||zs.all fun z=>Uz l l.length r z
section
variable {P : Program} {l : List Oper} {Q : Exit → Act → World → Prop} {S : World → Prop}
theorem B6d {done:List Nat} {a:Act} {w:World} (Z:List Soup) (hB:D0v l done (Z.map (·.at_)) (Z.map (·.dst))=true)
 (hgd:∀z∈Z,∀o,l[z.at_]?=some o→∀us,Region.wanted o (yielded l.toArray (L3 Z us a).tmps)=true)
 (hS:∀W,Below w.heap.size w W→S W) (hm:∀z∈Z,z.mono) (hstep:∀z∈Z,B1i P l a w Z z)
 (hr:∀us W,Below w.heap.size w W→(∀z∈Z,z.good (us z.at_) W)→(∀y∈Z,∀z∈Z,y.fresh=true→z.fresh=true→y.at_≠z.at_→Cu (us y.at_)≠Cu (us z.at_))→
  (∀z∈Z,z.fresh=true→∃b,Cu (us z.at_)=some b∧w.heap.size≤b∧b<W.heap.size)→P6 P l Q S (done++Z.map (·.at_)) (L3 Z us a) W):P6 P l Q S done a w:=by
 simp only[D0v,Bool.and_eq_true,decide_eq_true_eq,List.all_eq_true,Bool.or_eq_true,List.mem_range,Bool.not_eq_true']at hB;obtain⟨⟨⟨⟨⟨⟨aF,aL⟩,bO⟩,aT⟩,bP⟩,aX⟩,aM⟩:=hB;have aG:∀z∈Z,z.at_<l.length∧z.at_∉done∧∃o,l[z.at_]?=some o:=by
  intro z hz;obtain⟨h1,h2⟩:=bO z.at_ (List.mem_map_of_mem hz);cases ho:l[z.at_]? with
  | none=>rw[ho]at h2;cases h2
  | some o=>
   rw[ho]at h2;refine ⟨(List.getElem?_eq_some_iff.1 ho).1,fun h=>?_,o,rfl⟩;rw[List.contains_iff_mem.2 h]at h1;cases h1
 have aY:∀(m:Nat) (D:List Nat) (us:Nat→Value) (W:World),D.length+m=Z.length→D.Nodup→(∀i∈D,∃z∈Z,z.at_=i)→Below w.heap.size w W→
  (∀i o,l[i]?=some o→i∈done++D→∀e∈o.after,Region.binds .any e=true→e.on∈done++D)→
  (∀z∈Z,z.at_∈D→z.good (us z.at_) W)→(∀y∈Z,∀z∈Z,y.at_∈D→z.at_∈D→y.fresh=true→z.fresh=true→y.at_≠z.at_→Cu (us y.at_)≠Cu (us z.at_))→
  (∀z∈Z,z.at_∈D→z.fresh=true→∃b,Cu (us z.at_)=some b∧w.heap.size≤b∧b<W.heap.size)→P6 P l Q S (done++D) (L3 Z us a) W:=by
  intro m;induction m with
  | zero=>
   intro D us W hl aZ hD hW bA hg aH aN;have aB:∀z∈Z,z.at_∈D:=by
    intro z hz;apply Classical.byContradiction;intro hn;have aI:D ⊆ (Z.map (·.at_)).erase z.at_:=by
     intro i hi;obtain⟨y,hy,rfl⟩:=hD i hi;exact (List.mem_erase_of_ne (fun e=>hn (by rw[←e];exact hi))).2 (List.mem_map_of_mem hy)
    have h1:=Ec _ _ aZ aI;rw[List.length_erase_of_mem (List.mem_map_of_mem hz),List.length_map]at h1;have h2:0<Z.length:=List.length_pos_of_mem hz;omega
   have hp:∀i,i∈done++D↔i∈done++Z.map (·.at_):=by
    intro i;simp only[List.mem_append,List.mem_map];constructor
    ·rintro (h | h)
     ·exact .inl h
     ·exact .inr (hD i h)
    ·rintro (h | ⟨z,hz,rfl⟩)
     ·exact .inl h
     ·exact .inr (aB z hz)
   have h:=hr us W hW (fun z hz=>hg z hz (aB z hz)) (fun y hy z hz=>aH y hy z hz (aB y hy) (aB z hz)) (fun z hz=>aN z hz (aB z hz));unfold P6 at h ⊢;rw[Ds hp];rw[show (done++D).length=(done++Z.map (·.at_)).length by simp;omega];exact h
  | succ m ih=>
   intro D us W hl aZ hD hW bA hg aH aN;have bH:(done++D).length<l.length:=by simp only[List.length_append];rw[List.length_map]at aX;omega
   have bB:∀(i:Nat) (o:Oper),l[i]?=some o→(J0 l.length (done++D)).getD i false=true→∀e∈o.after,Region.binds .any e=true→(J0 l.length (done++D)).getD e.on false=true:=by intro i o ho hi e he hb;have aU:=(List.getElem?_eq_some_iff.1 ho).1;rw[J8 _ _ _ _ aU]at hi;have h1:=bA i o ho (by simpa using hi) e he hb;have h2:=Ac aF ho e he hb;rw[J8 _ _ _ _ (by omega)];simpa using h1
   have aO:∃z∈Z,z.at_∉D:=by
    apply Classical.byContradiction;intro hn;have aI:Z.map (·.at_) ⊆ D:=by
     intro i hi;obtain⟨z,hz,rfl⟩:=List.mem_map.1 hi;apply Classical.byContradiction;intro h;exact hn ⟨z,hz,h⟩
    have h1:=Ec _ _ aT aI;rw[List.length_map]at h1;omega
   obtain⟨z0,aJ,bI⟩:=aO;have bQ:Region.ready .any l.toArray (J0 l.length (done++D))≠[]:=by
    intro h;have h1:=Gx aF (Fo _ _) h z0.at_ (aG z0 aJ).1;rw[J8 _ _ _ _ (aG z0 aJ).1]at h1;have h2:z0.at_∈done++D:=by simpa using h1
    rcases List.mem_append.1 h2 with h | h
    ·exact (aG z0 aJ).2.1 h
    ·exact bI h
   refine Ki (rs:=Region.ready .any l.toArray (J0 l.length (done++D))) (by simp only[Ey,Bool.and_eq_true,beq_self_eq_true,decide_eq_true_eq,true_and];exact bH) bQ fun i hi=>?_;obtain⟨h1,o,h2,h3⟩:=mem_ready.1 hi;have aE:l[i]?=some o:=by simpa using h2
   have aU:=(List.getElem?_eq_some_iff.1 aE).1;have bJ:i∉done++D:=by rw[J8 _ _ _ _ aU]at h1;simpa using h1
   have bR:∃z∈Z,z.at_=i:=by
    have hh:=aM i aU;rcases hh with (hh | hh) | hh
    ·exact absurd (List.mem_append_left _ (List.contains_iff_mem.1 hh)) bJ
    ·obtain⟨z,hz,e⟩:=List.mem_map.1 (List.contains_iff_mem.1 hh);exact ⟨z,hz,e⟩
    ·have bS:=hh z0.at_ (List.mem_map_of_mem aJ);have bK:=Gf bB _ _ _ bS fun o' aD e he hb=>by
      rw[aE]at aD;injection aD with aD;subst aD;exact h3 e he hb
     rw[J8 _ _ _ _ (aG z0 aJ).1]at bK;have h2:z0.at_∈done++D:=by simpa using bK
     rcases List.mem_append.1 h2 with h | h
     ·exact absurd h (aG z0 aJ).2.1
     ·exact absurd h bI
   obtain⟨z,hz,rfl⟩:=bR;obtain⟨_,bT,oz,aV⟩:=aG z hz;rw[aE]at aV;injection aV with aV;subst aV;have aC:∀e∈o.after,Region.binds .any e=true→e.on∈done++D:=by
    intro e he hb;have h4:=h3 e he hb;have h5:=Ac aF aE e he hb;rw[J8 _ _ _ _ (by omega)]at h4;simpa using h4
   refine Ya aE (hgd z hz _ aE us) (fun Q' hQ'=>?_) bH;refine hstep z hz o aE us W hW (fun k y hk hy=>?_) Q' (fun v W' hb hgv hfv=>?_)
   ·have bL:y∈Z:=List.mem_of_getElem? hk;simp only[Array.any_eq_true',Bool.and_eq_true,beq_iff_eq]at hy;obtain⟨e,he,aW,bU⟩:=hy;have h6:=aC e he aW;rw[bU]at h6;rcases List.mem_append.1 h6 with h | h
    ·exact absurd h (aG y bL).2.1
    ·exact hg y bL h
   ·have bM:Below w.heap.size w W':=hW.trans (hb.mono hW.size);refine hQ' _ _ (hS _ bM) ?_;rw[Fd Z us a z v hz aT bP,List.append_assoc];have bN:z.at_∉D:=fun h=>bJ (List.mem_append_right _ h);have hu:∀y:Soup,y.at_∈D→Ap us z.at_ v y.at_=us y.at_:=fun y hy=>by
     have:y.at_≠z.at_:=fun e=>bN (by rw[←e];exact hy);simp[Ap,this]
    have aA:∀y∈Z,y.at_=z.at_→y=z:=fun y hy e=>Lz Z aT y hy z hz e;refine ih (D++[z.at_]) _ W' (by simp;omega) ?_ ?_ bM ?_ ?_ ?_ ?_
    ·rw[List.nodup_append];exact ⟨aZ,by simp,fun x hx y hy e=>bN (by simp at hy;rw[←hy,←e];exact hx)⟩
    ·intro i hi;rcases List.mem_append.1 hi with hi | hi
     ·exact hD i hi
     ·exact ⟨z,hz,(by simpa using hi:i=z.at_).symm⟩
    ·intro i o' aD hi e he aW;rw[←List.append_assoc]at hi ⊢;rcases List.mem_append.1 hi with hi | hi
     ·exact List.mem_append_left _ (bA i o' aD hi e he aW)
     ·have:i=z.at_:=by simpa using hi
      subst this;rw[aE]at aD;injection aD with aD;subst aD;exact List.mem_append_left _ (aC e he aW)
    ·intro y hy aP;rcases List.mem_append.1 aP with h | h
     ·rw[hu y h];exact hm y hy _ _ _ (hg y hy h) hb
     ·have:y.at_=z.at_:=by simpa using h
      have:=aA y hy this;subst this;simpa [Ap] using hgv
    ·intro y hy x hx aP bW aK bC aQ;rcases List.mem_append.1 aP with h | h<;>rcases List.mem_append.1 bW with h' | h'
     ·rw[hu y h,hu x h'];exact aH y hy x hx h h' aK bC aQ
     ·have:=aA x hx (by simpa using h');subst this;obtain⟨b,aR,bD,bE⟩:=hfv bC;obtain⟨c,aS,bF,bG⟩:=aN y hy h aK;rw[hu y h,aS,show Ap us x.at_ v x.at_=v by simp[Ap],aR];intro e;injection e with e;omega
     ·have:=aA y hy (by simpa using h);subst this;obtain⟨b,aR,bD,bE⟩:=hfv aK;obtain⟨c,aS,bF,bG⟩:=aN x hx h' bC;rw[hu x h',aS,show Ap us y.at_ v y.at_=v by simp[Ap],aR];intro e;injection e with e;omega
     ·exact absurd (by rw[aA y hy (by simpa using h),aA x hx (by simpa using h')]) aQ
    ·intro y hy aP aK;rcases List.mem_append.1 aP with h | h
     ·obtain⟨c,aS,bF,bG⟩:=aN y hy h aK;exact ⟨c,by rw[hu y h,aS],bF,Nat.lt_of_lt_of_le bG hb.size⟩
     ·have:=aA y hy (by simpa using h);subst this;obtain⟨b,aR,bD,bE⟩:=hfv aK;exact ⟨b,by simpa [Ap] using aR,Nat.le_trans hW.size bD,bE⟩
 obtain⟨us,bX⟩:=Po Z (fun z=>a.tmps.getD z.dst undef) aT;have h:=aY Z.length [] us w (by simp) (by simp) (by simp) (Below.refl _ _) (fun i o ho hi e he hb=>?_) (by simp) (by simp) (by simp)
 ·rw[Gh Z us a bX,List.append_nil]at h;exact h
 ·rw[List.append_nil]at hi ⊢;unfold dcB at aL;have h1:=List.all_eq_true.1 aL i hi;rw[ho]at h1;have h2:=Array.all_eq_true_iff_forall_mem.1 h1 e he;rw[hb]at h2;exact List.contains_iff_mem.1 (by simpa using h2)
end
end
end Go.Proofs.YtdfpoofbgjilgaaGreat
