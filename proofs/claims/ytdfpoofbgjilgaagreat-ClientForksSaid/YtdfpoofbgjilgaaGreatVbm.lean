/- A part of the proof of ClientForks. -/
import Derived.WideKeyEntry
import Derived.Test.YtdfpoofbgjilgaaGreatVbl
set_option linter.unusedVariables false
set_option linter.unusedSimpArgs false
set_option maxRecDepth 100000
set_option maxHeartbeats 40000000
namespace Go.Proofs.YtdfpoofbgjilgaaGreat
open Go Go.RowKit Sh
section
structure RelW (R : World → World → Prop) : Prop where
 refl:∀a,R a a
 trans:∀ {a b c},R a b→R b c→R a c
 size:∀ {a b},R a b→a.heap.size≤b.heap.size
def Soup.monoR (R:World→World→Prop) (z:Soup):Prop:=∀v W W',z.good v W→R W W'→z.good v W'
section
variable {P : Program} {l : List Oper} {Q : Exit → Act → World → Prop} {S : World → Prop} {R : World → World → Prop}
def A4x (R:World→World→Prop) (P:Program) (l:List Oper) (a:Act) (w:World) (Z:List Soup) (z:Soup):Prop:=
 ∀o,l[z.at_]?=some o→∀us W,R w W→(∀(k:Nat) (y:Soup),Z[k]?=some y→(o.after.any fun e=>Region.binds .any e&&e.on==y.at_)=true→y.good (us y.at_) W)→
  ∀Q':Exit→Act→World→Prop,(∀v W',R W W'→z.good v W'→(z.fresh=true→∃b,Cu v=some b∧W.heap.size≤b∧b<W'.heap.size)→Q' .normal ((L3 Z us a).put (some z.dst) v) W')→wpList P #[E5 o] Q' [E5 o] (L3 Z us a) W
theorem Qv (hR:RelW R) {done:List Nat} {a:Act} {w:World} (Z:List Soup) (f:Soup) (hfZ:f∈Z) (hB:C8w l done (Z.map (·.at_)) (Z.map (·.dst)) f.at_=true) (hff:f.fresh=false) {of:Oper} (hof:pick l [f.at_]=[of])
 (hsel:Region.noSelect l.toArray=true) (hf1:(Bo .any l.toArray (J0 l.length (done++(Z.map (·.at_)).erase f.at_)) [f.at_]).2=true) (hap:Cp a.tmps.size [of]=true)
 (hfv:∀us W,R w W→(∀z∈Z,z.at_≠f.at_→z.good (us z.at_) W)→∃v,f.good v W∧∀W',S W'→wpQuiet P l.toArray (fun w'=>w'=W') (fun a'=>a'=(L3 Z us a).put (some f.dst) v) [of] (L3 Z us a))
 (hS:∀W,R w W→S W) (hm:∀z∈Z,z.monoR R) (hstep:∀z∈Z,A4x R P l a w Z z)
 (hr:∀us W,R w W→(∀z∈Z,z.good (us z.at_) W)→(∀y∈Z,∀z∈Z,y.fresh=true→z.fresh=true→y.at_≠z.at_→Cu (us y.at_)≠Cu (us z.at_))→
  (∀z∈Z,z.fresh=true→∃b,Cu (us z.at_)=some b∧w.heap.size≤b∧b<W.heap.size)→P6 P l Q S (done++Z.map (·.at_)) (L3 Z us a) W):P6 P l Q S done a w:=by
 simp only[C8w,Bool.and_eq_true,decide_eq_true_eq,List.all_eq_true,Bool.or_eq_true,List.mem_range,Bool.not_eq_true']at hB;obtain⟨⟨⟨⟨⟨⟨aI,aN⟩,bT⟩,aG⟩,bK⟩,aO⟩,aP⟩:=hB;have aJ:∀z∈Z,z.at_<l.length∧z.at_∉done∧∃o,l[z.at_]?=some o∧o.guard=none:=by
  intro z hz;obtain⟨h1,h2⟩:=bT z.at_ (List.mem_map_of_mem hz);cases ho:l[z.at_]? with
  | none=>rw[ho]at h2;cases h2
  | some o=>
   rw[ho]at h2;refine ⟨(List.getElem?_eq_some_iff.1 ho).1,fun h=>?_,o,rfl,by simpa using h2⟩;rw[List.contains_iff_mem.2 h]at h1;cases h1
 have aZ:∀(m:Nat) (D:List Nat) (us:Nat→Value) (W:World),D.length+m=Z.length→D.Nodup→(∀i∈D,∃z∈Z,z.at_=i)→R w W→
  (∀i o,l[i]?=some o→i∈done++D→∀e∈o.after,Region.binds .any e=true→e.on∈done++D)→
  (∀z∈Z,z.at_∈D→z.good (us z.at_) W)→(∀y∈Z,∀z∈Z,y.at_∈D→z.at_∈D→y.fresh=true→z.fresh=true→y.at_≠z.at_→Cu (us y.at_)≠Cu (us z.at_))→
  (∀z∈Z,z.at_∈D→z.fresh=true→∃b,Cu (us z.at_)=some b∧w.heap.size≤b∧b<W.heap.size)→P6 P l Q S (done++D) (L3 Z us a) W:=by
  intro m;induction m with
  | zero=>
   intro D us W hl bA hD hW bB hg aH aM;have aA:∀z∈Z,z.at_∈D:=by
    intro z hz;apply Classical.byContradiction;intro hn;have aC:D ⊆ (Z.map (·.at_)).erase z.at_:=by
     intro i hi;obtain⟨y,hy,rfl⟩:=hD i hi;exact (List.mem_erase_of_ne (fun e=>hn (by rw[←e];exact hi))).2 (List.mem_map_of_mem hy)
    have h1:=Ec _ _ bA aC;rw[List.length_erase_of_mem (List.mem_map_of_mem hz),List.length_map]at h1;have h2:0<Z.length:=List.length_pos_of_mem hz;omega
   have hp:∀i,i∈done++D↔i∈done++Z.map (·.at_):=by
    intro i;simp only[List.mem_append,List.mem_map];constructor
    ·rintro (h | h)
     ·exact .inl h
     ·exact .inr (hD i h)
    ·rintro (h | ⟨z,hz,rfl⟩)
     ·exact .inl h
     ·exact .inr (aA z hz)
   have h:=hr us W hW (fun z hz=>hg z hz (aA z hz)) (fun y hy z hz=>aH y hy z hz (aA y hy) (aA z hz)) (fun z hz=>aM z hz (aA z hz));unfold P6 at h ⊢;rw[Ds hp];rw[show (done++D).length=(done++Z.map (·.at_)).length by simp;omega];exact h
  | succ m ih=>
   intro D us W hl bA hD hW bB hg aH aM;by_cases hmain:∀z∈Z,z.at_≠f.at_→z.at_∈D
   ·have bL:f.at_∉D:=by
     intro h;have aC:Z.map (·.at_) ⊆ D:=by
      intro i hi;obtain⟨z,hz,rfl⟩:=List.mem_map.1 hi;by_cases e:z.at_=f.at_
      ·rw[e];exact h
      ·exact hmain z hz e
     have h1:=Ec _ _ aG aC;rw[List.length_map]at h1;omega
    have bU:∀i,i∈done++D↔i∈done++(Z.map (·.at_)).erase f.at_:=by
     intro i;simp only[List.mem_append];constructor
     ·rintro (h | h)
      ·exact .inl h
      ·obtain⟨z,hz,rfl⟩:=hD i h;exact .inr ((List.mem_erase_of_ne (fun e=>bL (by rw[←e];exact h))).2 (List.mem_map_of_mem hz))
     ·rintro (h | h)
      ·exact .inl h
      ·obtain⟨z,hz,e⟩:=List.mem_map.1 (List.mem_of_mem_erase h);subst e;refine .inr (hmain z hz fun e=>?_);rw[e]at h;exact (List.Nodup.not_mem_erase aG) h
    obtain⟨v,hv,hq⟩:=hfv us W hW fun z hz aQ=>hg z hz (hmain z hz aQ);refine C5 [f.at_] hsel (by rw[Ds bU];exact hf1) hof (by rw[List.length_map]at aO;simp;omega) (by rw[Sx];exact hap) (hS W hW) _ hq ?_;rw[Fd Z us a f v hfZ aG bK,List.append_assoc];have hu:∀y:Soup,y.at_∈D→Ap us f.at_ v y.at_=us y.at_:=fun y hy=>by
     have:y.at_≠f.at_:=fun e=>bL (by rw[←e];exact hy);simp[Ap,this]
    have aB:∀y∈Z,y.at_=f.at_→y=f:=fun y hy e=>Lz Z aG y hy f hfZ e;have hp:∀i,i∈done++(D++[f.at_])↔i∈done++Z.map (·.at_):=by
     intro i;simp only[List.mem_append,List.mem_map,List.mem_singleton];constructor
     ·rintro (h | h | h)
      ·exact .inl h
      ·exact .inr (hD i h)
      ·exact .inr ⟨f,hfZ,h.symm⟩
     ·rintro (h | ⟨z,hz,rfl⟩)
      ·exact .inl h
      ·by_cases e:z.at_=f.at_
       ·exact .inr (.inr e)
       ·exact .inr (.inl (hmain z hz e))
    have aA:∀z∈Z,z.fresh=true→z.at_∈D:=fun z hz hzf=>hmain z hz fun e=>by
     rw[aB z hz e,hff]at hzf;cases hzf
    have bM:D.length+1=Z.length:=by
     have aC:Z.map (·.at_) ⊆ D++[f.at_]:=by
      intro i hi;obtain⟨z,hz,rfl⟩:=List.mem_map.1 hi;by_cases e:z.at_=f.at_
      ·rw[e];simp
      ·exact List.mem_append_left _ (hmain z hz e)
     have h1:=Ec _ _ aG aC;rw[List.length_map,List.length_append,List.length_singleton]at h1;omega
    have h:=hr (Ap us f.at_ v) W hW (fun z hz=>by
     by_cases e:z.at_=f.at_
     ·rw[aB z hz e];simpa [Ap] using hv
     ·rw[hu z (hmain z hz e)];exact hg z hz (hmain z hz e))
     (fun y hy z hz aE hzf=>by rw[hu y (aA y hy aE),hu z (aA z hz hzf)];exact aH y hy z hz (aA y hy aE) (aA z hz hzf) aE hzf)
     (fun z hz hzf=>by rw[hu z (aA z hz hzf)];exact aM z hz (aA z hz hzf) hzf)
    unfold P6 at h ⊢;rw[Ds hp];rw[show (done++(D++[f.at_])).length=(done++Z.map (·.at_)).length by simp;omega];exact h
   have bN:(done++D).length<l.length:=by simp only[List.length_append];rw[List.length_map]at aO;omega
   have bC:∀(i:Nat) (o:Oper),l[i]?=some o→(J0 l.length (done++D)).getD i false=true→∀e∈o.after,Region.binds .any e=true→(J0 l.length (done++D)).getD e.on false=true:=by intro i o ho hi e he hb;have aW:=(List.getElem?_eq_some_iff.1 ho).1;rw[J8 _ _ _ _ aW]at hi;have h1:=bB i o ho (by simpa using hi) e he hb;have h2:=Ac aI ho e he hb;rw[J8 _ _ _ _ (by omega)];simpa using h1
   have aR:∃z∈Z,z.at_∉D:=by
    apply Classical.byContradiction;intro hn;have aC:Z.map (·.at_) ⊆ D:=by
     intro i hi;obtain⟨z,hz,rfl⟩:=List.mem_map.1 hi;apply Classical.byContradiction;intro h;exact hn ⟨z,hz,h⟩
    have h1:=Ec _ _ aG aC;rw[List.length_map]at h1;omega
   obtain⟨z0,aK,bD⟩:=aR;have aQ:Region.ready .any l.toArray (J0 l.length (done++D))≠[]:=by
    intro h;have h1:=Gx aI (Fo _ _) h z0.at_ (aJ z0 aK).1;rw[J8 _ _ _ _ (aJ z0 aK).1]at h1;have h2:z0.at_∈done++D:=by simpa using h1
    rcases List.mem_append.1 h2 with h | h
    ·exact (aJ z0 aK).2.1 h
    ·exact bD h
   refine Ki (rs:=Region.ready .any l.toArray (J0 l.length (done++D))) (by simp only[Ey,Bool.and_eq_true,beq_self_eq_true,decide_eq_true_eq,true_and];exact bN) aQ fun i hi=>?_;obtain⟨h1,o,h2,h3⟩:=mem_ready.1 hi;have aL:l[i]?=some o:=by simpa using h2
   have aW:=(List.getElem?_eq_some_iff.1 aL).1;have bO:i∉done++D:=by rw[J8 _ _ _ _ aW]at h1;simpa using h1
   have bW:∃z∈Z,z.at_=i:=by
    have hh:=aP i aW;rcases hh with (hh | hh) | hh
    ·exact absurd (List.mem_append_left _ (List.contains_iff_mem.1 hh)) bO
    ·obtain⟨z,hz,e⟩:=List.mem_map.1 (List.contains_iff_mem.1 hh);exact ⟨z,hz,e⟩
    ·obtain⟨z0,aK,bE,bD⟩:∃z∈Z,z.at_≠f.at_∧z.at_∉D:=by apply Classical.byContradiction;intro hn;refine hmain fun z hz aQ=>?_;apply Classical.byContradiction;intro h;exact hn ⟨z,hz,aQ,h⟩
     have bX:=(hh z0.at_ (List.mem_map_of_mem aK)).resolve_left bE;have bP:=Gf bC _ _ _ bX fun o' aF e he hb=>by
      rw[aL]at aF;injection aF with aF;subst aF;exact h3 e he hb
     rw[J8 _ _ _ _ (aJ z0 aK).1]at bP;have h2:z0.at_∈done++D:=by simpa using bP
     rcases List.mem_append.1 h2 with h | h
     ·exact absurd h (aJ z0 aK).2.1
     ·exact absurd h bD
   obtain⟨z,hz,rfl⟩:=bW;obtain⟨_,bY,oz,aX,bZ⟩:=aJ z hz;rw[aL]at aX;injection aX with aX;subst aX;have aD:∀e∈o.after,Region.binds .any e=true→e.on∈done++D:=by
    intro e he hb;have h4:=h3 e he hb;have h5:=Ac aI aL e he hb;rw[J8 _ _ _ _ (by omega)]at h4;simpa using h4
   refine Ya aL (by unfold Region.wanted;rw[bZ]) (fun Q' hQ'=>?_) bN;refine hstep z hz o aL us W hW (fun k y hk hy=>?_) Q' (fun v W' hb hgv hfv=>?_)
   ·have bQ:y∈Z:=List.mem_of_getElem? hk;simp only[Array.any_eq_true',Bool.and_eq_true,beq_iff_eq]at hy;obtain⟨e,he,aY,cA⟩:=hy;have h6:=aD e he aY;rw[cA]at h6;rcases List.mem_append.1 h6 with h | h
    ·exact absurd h (aJ y bQ).2.1
    ·exact hg y bQ h
   ·have bR:R w W':=hR.trans hW hb;refine hQ' _ _ (hS _ bR) ?_;rw[Fd Z us a z v hz aG bK,List.append_assoc];have bS:z.at_∉D:=fun h=>bO (List.mem_append_right _ h);have hu:∀y:Soup,y.at_∈D→Ap us z.at_ v y.at_=us y.at_:=fun y hy=>by
     have:y.at_≠z.at_:=fun e=>bS (by rw[←e];exact hy);simp[Ap,this]
    have aB:∀y∈Z,y.at_=z.at_→y=z:=fun y hy e=>Lz Z aG y hy z hz e;refine ih (D++[z.at_]) _ W' (by simp;omega) ?_ ?_ bR ?_ ?_ ?_ ?_
    ·rw[List.nodup_append];exact ⟨bA,by simp,fun x hx y hy e=>bS (by simp at hy;rw[←hy,←e];exact hx)⟩
    ·intro i hi;rcases List.mem_append.1 hi with hi | hi
     ·exact hD i hi
     ·exact ⟨z,hz,(by simpa using hi:i=z.at_).symm⟩
    ·intro i o' aF hi e he aY;rw[←List.append_assoc]at hi ⊢;rcases List.mem_append.1 hi with hi | hi
     ·exact List.mem_append_left _ (bB i o' aF hi e he aY)
     ·have:i=z.at_:=by simpa using hi
      subst this;rw[aL]at aF;injection aF with aF;subst aF;exact List.mem_append_left _ (aD e he aY)
    ·intro y hy aS;rcases List.mem_append.1 aS with h | h
     ·rw[hu y h];exact hm y hy _ _ _ (hg y hy h) hb
     ·have:y.at_=z.at_:=by simpa using h
      have:=aB y hy this;subst this;simpa [Ap] using hgv
    ·intro y hy x hx aS cB aE bF aT;rcases List.mem_append.1 aS with h | h<;>rcases List.mem_append.1 cB with h' | h'
     ·rw[hu y h,hu x h'];exact aH y hy x hx h h' aE bF aT
     ·have:=aB x hx (by simpa using h');subst this;obtain⟨b,aU,bG,bH⟩:=hfv bF;obtain⟨c,aV,bI,bJ⟩:=aM y hy h aE;rw[hu y h,aV,show Ap us x.at_ v x.at_=v by simp[Ap],aU];intro e;injection e with e;omega
     ·have:=aB y hy (by simpa using h);subst this;obtain⟨b,aU,bG,bH⟩:=hfv aE;obtain⟨c,aV,bI,bJ⟩:=aM x hx h' bF;rw[hu x h',aV,show Ap us y.at_ v y.at_=v by simp[Ap],aU];intro e;injection e with e;omega
     ·exact absurd (by rw[aB y hy (by simpa using h),aB x hx (by simpa using h')]) aT
    ·intro y hy aS aE;rcases List.mem_append.1 aS with h | h
     ·obtain⟨c,aV,bI,bJ⟩:=aM y hy h aE;exact ⟨c,by rw[hu y h,aV],bI,Nat.lt_of_lt_of_le bJ (hR.size hb)⟩
     ·have:=aB y hy (by simpa using h);subst this;obtain⟨b,aU,bG,bH⟩:=hfv aE;exact ⟨b,by simpa [Ap] using aU,Nat.le_trans (hR.size hW) bG,bH⟩
 obtain⟨us,cC⟩:=Po Z (fun z=>a.tmps.getD z.dst undef) aG;have h:=aZ Z.length [] us w (by simp) (by simp) (by simp) (hR.refl _) (fun i o ho hi e he hb=>?_) (by simp) (by simp) (by simp)
 ·rw[Gh Z us a cC,List.append_nil]at h;exact h
 ·rw[List.append_nil]at hi ⊢;unfold dcB at aN;have h1:=List.all_eq_true.1 aN i hi;rw[ho]at h1;have h2:=Array.all_eq_true_iff_forall_mem.1 h1 e he;rw[hb]at h2;exact List.contains_iff_mem.1 (by simpa using h2)
end
end
section
def Rm (r:Option Addr) (n:Int) (h:List UInt8) (b:Option Nat):List Value:=.pointer r::(Q9 n h++[.map b])
def clV (r:Option Addr) (n:Int) (h:List UInt8) (b:Option Nat):Value:=.agg (Rm r n h b).toArray
def Zm (r:Option Addr):Value:=.agg (.pointer r::Q9 0 (z8 32)).toArray
theorem C7l {r s:Option Addr} (e:Zm r=Zm s):r=s:=by
 unfold Zm at e;injection e with e;have e:=congrArg Array.toList e;simp only[List.cons.injEq]at e;injection e.1 with e1
theorem Ri {r:Option Addr} {n:Int} {h:List UInt8} {b:Option Nat} (hh:h.length=32):(Rm r n h b).length=35:=by simp[Rm,Q9,hh]
theorem D3t (r:Option Addr) (w:World):(Instr.build 147 #[(0,.pointer r)]).run Tryz.prog w=.ok (Zm r) w:=by kernel_rfl
theorem D9n (r:Option Addr) (b:Option Nat) (w:World):(Instr.build 149 #[(0,Zm r),(1,.map b)]).run Tryz.prog w=.ok (clV r 0 (z8 32) b) w:=by kernel_rfl
def D1o (w:World) (raw:Result Next):Value→Result Next
 | .pointer r=>.ok (.value (Zm r)) w
 | _=>raw
@[go_sem] theorem E5k (w : World) (raw : Result Next) (r : Option Addr) : D1o w raw (.pointer r) = .ok (.value (Zm r)) w := rfl
open Classical in
noncomputable def D4s (w:World) (raw:Result Next) (x y:Value):Result Next:=if h:∃p:Option Addr×Option Nat,x=Zm p.1∧y=.map p.2 then .ok (.value (clV h.choose.1 0 (z8 32) h.choose.2)) w else raw
@[go_sem] theorem F5j (w : World) (raw : Result Next) (r : Option Addr) (b : Option Nat) : D4s w raw (Zm r) (.map b) = .ok (.value (clV r 0 (z8 32) b)) w := by
 have h:∃p:Option Addr×Option Nat,Zm r=Zm p.1∧Value.map b=.map p.2:=⟨(r,b),rfl,rfl⟩;unfold D4s;rw[dif_pos h];obtain⟨h1,h2⟩:=h.choose_spec;have h1:=C7l h1;injection h2 with h2;rw[←h1,←h2]
@[go_sem] theorem E9m (t : TypeId) (w : World) (raw : Result Next) (r : Option Addr) (n : Int) (h : List UInt8) (b : Option Nat) : Jx t w raw (clV r n h b) = .ok (.value (.pointer (some ⟨w.heap.size, 0, none⟩))) (w.alloc (.cells (Rm r n h b).toArray t)) := rfl
section
variable (w : World) (ρ : Operand → Value) (dst : Option Tmp) (ty : TypeId) (pos : String) (after : Array Edge) (guard : Option (Nat × Bool)) (x y : Operand)
@[go_sem ↓ high] theorem E1x :
 (execOp ρ { dst,op:=.build 147 #[(0,x)],type:=ty,pos,after,guard }).run Tryz.prog w=D1o w (F2 Tryz.prog ρ { dst,op:=.build 147 #[(0,x)],type:=ty,pos,after,guard } w) (ρ x):=by
 generalize h0:ρ x=a;unfold D1o;split
 ·refine E9 w ρ dst ty pos after guard _ _ _ ?_;simp only[List.map_toArray,List.map_cons,List.map_nil,h0];exact D3t _ w
 ·rfl
@[go_sem ↓ high] theorem E4b :
 (execOp ρ { dst,op:=.build 149 #[(0,x),(1,y)],type:=ty,pos,after,guard }).run Tryz.prog w=D4s w (F2 Tryz.prog ρ { dst,op:=.build 149 #[(0,x),(1,y)],type:=ty,pos,after,guard } w) (ρ x) (ρ y):=by
 generalize h0:ρ x=a;generalize h1:ρ y=b;unfold D4s;split
 ·rename_i h
  obtain⟨e1,e2⟩:=h.choose_spec;generalize h.choose=p at *;refine E9 w ρ dst ty pos after guard _ _ _ ?_;simp only[List.map_toArray,List.map_cons,List.map_nil,h0,h1,e1,e2];exact D9n _ _ w
 ·rfl
@[go_sem ↓ high] theorem F4u:RB' 149:=BX' _
end
section
variable {w w' : World} {g : Nat} {t : TypeId} {r : Option Addr} {n m : Int} {h k : List UInt8} {b : Option Nat}
theorem D6q (K:Bk w g t (Rm r n h b)):w.cell? ⟨g,0,none⟩=some (.pointer r):=K.at_ rfl
theorem B3d (K:Bk w g t (Rm r n h b)):w.cell? ⟨g,1,none⟩=some (.int .i64 n):=K.at_ rfl
theorem C0j (K:Bk w g t (Rm r n h b)) (hh:h.length=32):D9 w ⟨g,1,none⟩ 33=some (Q9 n h):=by
 rw[K.rowMid 1 33 (by rw[Ri hh];decide)];simp[Rm,Q9,hh,List.take_append]
theorem B2e (K:Bk w g t (Rm r n h b)) (hh:h.length=32):w.cell? ⟨g,34,none⟩=some (.map b):=by
 refine K.at_ ?_;simp[Rm,Q9,hh,List.getElem?_append]
theorem D9g (K:Bk w g t (Rm r n h b)) (hh:h.length=32):E7 w ⟨g,1,none⟩ 33=true:=K.can (by rw[Ri hh];decide)
theorem E1v (K:Bk w g t (Rm r n h b)) (hh:h.length=32) (hk:k.length=32):Bk (C4 w ⟨g,1,none⟩ (Q9 m k)) g t (Rm r m k b):=by
 have:=K.put (o:=1) (vs:=Q9 m k) (by rw[Ri hh,Ay,Y5 hk];decide);have e:(Rm r n h b).take 1++Q9 m k++(Rm r n h b).drop (1+(Q9 m k).length)=Rm r m k b:=by
  rw[Ay,Y5 hk];simp[Rm,Q9,hh,List.drop_append]
 rwa [e]at this
end
theorem Ho {P:Program} {fn:Func} {tmps:Array Value} {w:World} {r1:ResultVar} {v1:Value} (h:fn.results=#[r1]) (h1:H9 P tmps w r1 v1):(results fn tmps).run P w=.ok v1 w:=by
 unfold H9 at h1;rw[Ma,h];simp[h1]
def Xw (rb mb:Nat) (A:Option Addr) (q c:Nat) (K:List (List UInt8)) (a b:World):Prop:=a.grownBy b (some mb)∧(Rg a rb mb A q c K→Rg b rb mb A q c K)
theorem Lw (rb mb:Nat) (A:Option Addr) (q c:Nat) (K:List (List UInt8)):RelW (Xw rb mb A q c K):=⟨fun a=>⟨World.grownBy.refl a _,id⟩,fun h k=>⟨h.1.trans k.1,fun x=>k.2 (h.2 x)⟩,fun h=>h.1.size⟩
theorem A3h (rb mb:Nat) (A:Option Addr) (q c:Nat) (K:List (List UInt8)) (W:World) (o:Obj):Xw rb mb A q c K W (W.alloc o):=⟨S4 ((Below.refl _ _).alloc (Nat.le_refl _) o) (Nat.le_refl _),fun h=>h.up ((Below.refl _ _).alloc (Nat.le_refl _) o)⟩
def zaR (mb i:Nat) (d:Tmp) (T:TypeId) (cs:List Value):Soup:=⟨i,d,fun v w=>∃p,v=.pointer (some ⟨p,0,none⟩)∧Bk w p T cs∧p≠mb,true⟩
theorem Zu (rb mb:Nat) (A:Option Addr) (q c:Nat) (K:List (List UInt8)) (i:Nat) (d:Tmp) (T:TypeId) (cs:List Value):(zaR mb i d T cs).monoR (Xw rb mb A q c K):=fun _ _ _ ⟨p,e,h,hn⟩ hb=>⟨p,e,h.grown hb.1 (fun e=>by injection e with e;exact hn e),hn⟩
theorem Nz {rb mb:Nat} {A:Option Addr} {q c:Nat} {K:List (List UInt8)} {l:List Oper} {a:Act} {w:World} {Z:List Soup} {i:Nat} {d:Tmp} {T:TypeId} {cs:List Value} {o:Oper} (hmb:mb<w.heap.size) (hi:l[i]?=some o) (hd:o.dst=some d)
 (h:∀(ρ:Operand→Value) (W:World),(execOp ρ (E5 o)).run Tryz.prog W=.ok (.value (.pointer (some ⟨W.heap.size,0,none⟩))) (W.alloc (.cells cs.toArray T))):A4x (Xw rb mb A q c K) Tryz.prog l a w Z (zaR mb i d T cs):=by
 intro o' aA us W hW hp Q' hQ';have:o'=o:=by
  have h1:l[i]?=some o':=aA;rw[hi]at h1;injection h1 with h1;exact h1.symm
 subst this;unfold wpList;rw[if_pos (by simp[Region.wanted,E5])];refine .inl ?_;unfold Oper.wp;rw[h,Oper.upon_value];show wpList Tryz.prog _ Q' [] _ _;have aB:(E5 o').dst=some d:=hd;rw[aB];exact hQ' _ _ (A3h rb mb A q c K W _) ⟨_,rfl,Bk.new W T cs,by have:=hW.1.size;omega⟩ (fun _=>⟨_,rfl,Nat.le_refl _,by simp⟩)
def RtC (rb mb:Nat) (A:Option Addr) (q c:Nat) (K:List (List UInt8)) (w:World) (cv:Value) (n:Int) (h:List UInt8) (e:Int):Prop:=
 ∀W,w.grownBy W (some mb)→Rg W rb mb A q c K→Calls Tryz.prog 9 #[.pointer (some ⟨rb,0,none⟩),cv] W fun x w'=>x=.returned (.tuple #[Cf n h,.int .i64 e])∧W.grownBy w' (some mb)∧Rg w' rb mb A q c K
section
variable {w w' : World} {rb mb q c : Nat} {A : Option Addr} {K : List (List UInt8)}
theorem RtC.later {cv:Value} {n e:Int} {h:List UInt8} (hc:RtC rb mb A q c K w cv n h e) (hg:w.grownBy w' (some mb)):RtC rb mb A q c K w' cv n h e:=fun W h1 h2=>hc W (hg.trans h1) h2
theorem RtC.zero (w:World):RtC rb mb A q c K w (.agg #[.slice none 0 0,.slice none 0 0,.slice none 0 0]) 0 (z8 32) 0:=fun W _ hR=>(B6z _ W).mono fun x w' ⟨h1,h2⟩=>⟨h1,S4 h2 (Nat.le_refl _),hR.up h2⟩
theorem C9j (r:Addr) (w:World):Calls Tryz.prog 22 #[.pointer (some r)] w fun x w'=>∃g b,x=.returned (.tuple #[.pointer (some ⟨g,0,none⟩),.int .i64 0])∧w.heap.size≤g∧w.heap.size≤b∧b<w'.heap.size∧b≠g∧MapV w' b 0 (fun _=>none)∧Bk w' g 149 (Rm (some r) 0 (z8 32) (some b))∧Below w.heap.size w w':=by
 have aB:=@run_makeMap Tryz.prog;obtain⟨w1,aA⟩:∃z,z=w.alloc (.map #[] 0):=⟨_,rfl⟩;have m1:MapV w1 w.heap.size 0 (fun _=>none):=by rw[aA];exact MapV.made w
 have s1:w1.heap.size=w.heap.size+1:=by rw[aA];simp
 have b1:Below w.heap.size w w1:=by rw[aA];exact (Below.refl _ _).alloc (Nat.le_refl _) _
 have S1:=Lib.hid s1;clear s1;go_enter Tryz.func22,Tryz.ntmps22;go_wp2_with fail;rw[←aA];go_ret2
 have b2:Below w1.heap.size w1 (w1.alloc (Obj.cells (Rm (some r) 0 (z8 32) (some w.heap.size)).toArray 149)):=(Below.refl _ _).alloc (Nat.le_refl _) _;have k2:=Bk.new w1 149 (Rm (some r) 0 (z8 32) (some w.heap.size));rw[S1.out]at k2;exact ⟨w.heap.size+1,w.heap.size,rfl,Nat.le_succ _,Nat.le_refl _,Nat.lt_of_lt_of_le (by rw[S1.out];exact Nat.lt_succ_self _) b2.size,by omega,m1.below b2 (Nat.le_refl _),k2,C1 b1 b2 b1.size⟩
theorem B4y {g:Nat} {r:Option Addr} {n:Int} {h:List UInt8} {b:Option Nat} (hk:Bk w g 149 (Rm r n h b)) (hh:h.length=32):Calls Tryz.prog 25 #[.pointer (some ⟨g,0,none⟩)] w fun x w'=>x=.returned (Cf n h)∧Below w.heap.size w w':=by
 obtain⟨W0,aA⟩:∃z,z=w.alloc (Obj.cells (Q9 0 (z8 32)).toArray 37):=⟨_,rfl⟩;have kR:Bk W0 w.heap.size 37 (Q9 0 (z8 32)):=by rw[aA];exact Bk.new w _ _
 have B0:Below w.heap.size w W0:=by rw[aA];exact (Below.refl _ _).alloc (Nat.le_refl _) _
 have hz:(z8 32).length=32:=I1 32;have aC:rtL n h=33:=Y5 hh;have f1:=C0j (hk.below B0 hk.lt) hh;have aB:=kR.canrt hz;rw[aA]at f1 aB;go_enter Tryz.func25,Tryz.ntmps25;go_wp2_with fail;rw[←aA];exact bodyPost_ret (Ho rfl (Ep (kR.putrt hz hh) hh rfl)) rfl ⟨rfl,C0 B0 (Nat.le_refl _) _⟩
end
end
section
def syE (n:Int) (h:List UInt8) (e m:Int) (k:List UInt8):Int:=if (e != 0)=true then e else if (n==0)=true then 80 else if decide (n<m)=true then 220 else if ((n==m) && !((n==m)&&(h==k)))=true then 130 else 0
def syN (n:Int) (h:List UInt8) (e m:Int) (k:List UInt8):Int:=if syE n h e m k=0 then n else 0
def syH (n:Int) (h:List UInt8) (e m:Int) (k:List UInt8):List UInt8:=if syE n h e m k=0 then h else z8 32
theorem B5g {n:Int} {h:List UInt8} {e m:Int} {k:List UInt8} (hh:h.length=32):(syH n h e m k).length=32:=by unfold syH;split<;>simp[hh]
theorem Wj {n:Int} {h:List UInt8} {e m:Int} {k:List UInt8} {x:Int} (hx:syE n h e m k=x) (h0:x≠0):syN n h e m k=0∧syH n h e m k=z8 32:=by
 unfold syN syH;rw[hx,if_neg h0,if_neg h0];exact ⟨rfl,rfl⟩
theorem A3o {n:Int} {h:List UInt8} {e m:Int} {k:List UInt8} (hx:syE n h e m k=0):syN n h e m k=n∧syH n h e m k=h:=by
 unfold syN syH;rw[hx,if_pos rfl,if_pos rfl];exact ⟨rfl,rfl⟩
section
variable {w w' : World} {rb mb q c : Nat} {A : Option Addr} {K : List (List UInt8)}
theorem Rg.mlt (h:Rg w rb mb A q c K):mb<w.heap.size:=by
 obtain⟨o,ho,_⟩:=h.mp.notCells mb rfl;exact (Array.getElem?_eq_some_iff.1 ho).1
theorem Rg.apart {g:Nat} {T:TypeId} {cs:List Value} (h:Rg w rb mb A q c K) (hk:Bk w g T cs):g≠mb:=fun e=>by
 obtain⟨o,ho,hn⟩:=h.mp.notCells mb rfl;have h1:=hk;unfold Bk at h1;rw[e,ho]at h1;injection h1 with h1;rw[h1]at hn;cases hn
theorem B0o (h:Rg w rb mb A q c K) {g:Nat} {n0:Int} {h0:List UInt8} {b:Option Nat} (hk:Bk w g 149 (Rm (some ⟨rb,0,none⟩) n0 h0 b)) (hh0:h0.length=32)
 (A1 A2 A3:Option Addr) (n1 c1 n2 c2 n3 c3:Nat) (n:Int) (l:List UInt8) (e:Int) (hl:l.length=32) (hc:RtC rb mb A q c K w (.agg #[.slice A1 n1 c1,.slice A2 n2 c2,.slice A3 n3 c3]) n l e) :
 Calls Tryz.prog 66 #[.pointer (some ⟨g,0,none⟩),.agg #[.slice A1 n1 c1,.slice A2 n2 c2,.slice A3 n3 c3]] w fun x w'=>
  x=.returned (.tuple #[Cf (syN n l e n0 h0) (syH n l e n0 h0),.int .i64 (syE n l e n0 h0)])∧w.grownBy w' (some mb)∧Rg w' rb mb A q c K:=by
 obtain⟨W0,aJ⟩:∃z,z=(w.alloc (Obj.cells #[.slice A1 n1 c1,.slice A2 n2 c2,.slice A3 n3 c3] 33)).alloc (Obj.cells (Q9 0 (z8 32)).toArray 37):=⟨_,rfl⟩;have kC:Bk W0 w.heap.size 33 [.slice A1 n1 c1,.slice A2 n2 c2,.slice A3 n3 c3]:=by rw[aJ];exact (Bk.new w _ _).alloc _
 have kR:Bk W0 (w.heap.size+1) 37 (Q9 0 (z8 32)):=by rw[aJ];simpa using Bk.new (w.alloc (Obj.cells #[.slice A1 n1 c1,.slice A2 n2 c2,.slice A3 n3 c3] 33)) 37 (Q9 0 (z8 32))
 have B0:Below w.heap.size w W0:=by rw[aJ];exact ((Below.refl _ _).alloc (Nat.le_refl _) _).alloc (by simp) _
 have S0:W0.heap.size=w.heap.size+2:=by rw[aJ];simp
 have hz:(z8 32).length=32:=I1 32;have bM:=h.apart hk;have bN:=h.mlt;have bO:=h.up B0;have bC:=hk.below B0 hk.lt;have bP:=hc.later (S4 B0 (Nat.le_refl _));have aM:W0.grownBy W0.drew (some mb):=⟨rfl,rfl,rfl,Nat.le_refl _,fun _ _ _=>rfl⟩;have aN:Rg W0.drew rb mb A q c K:=bO.up ((Below.refl _ _).drew);have aO:mb<W0.drew.heap.size:=bO.mlt;have HH:=Lib.hid h;have HC:=Lib.hid bP;have HB:=Lib.hid B0;have cE:=Lib.hid S0;have cF:=hk.lt;have HM:=Lib.hid bN;clear h hc bP hk B0 S0 bN;go_enter Tryz.func66,Tryz.ntmps66;go_wp2_with fail;rw[←aJ];clear aJ;refine E3 (fun W=>W0.grownBy W (some mb)∧Rg W rb mb A q c K) (by kernel_rfl) ?_;refine C5 (A:=?cQ) [0,1,2,3,4] (by kernel_rfl) (by kernel_rfl) rfl (by kernel_rfl) (by kernel_rfl) ⟨aM,aN⟩ (h:=fun W hW=>?cG) (hr:=?cR);case cG=>
  have bD:=kC.grown hW.1 (fun e=>by injection e with e;have:=HM.out;omega);have k0:=bD.at_ (i:=0) rfl;have k1:=bD.at_ (i:=1) rfl;have k2:=bD.at_ (i:=2) rfl;have f0:=D6q (bC.grown hW.1 (fun e=>by injection e with e;exact bM e));simp only[pick,List.getElem?_cons_zero,List.getElem?_cons_succ];repeat (go_big_quiet_step (fail))
  refine wpQuiet_nil ?_;rfl
 refine Qv (Lw rb mb A q c K) [zv 5 14 (.tuple #[Cf n l,.int .i64 e]),zv 6 8 (.tuple #[Cf n l,.int .i64 e]),zv 7 15 (Cf n l),zaR mb 9 6 37 (Q9 0 (z8 32)),zv 8 16 (.int .i64 e)] (zv 8 16 (.int .i64 e)) (List.mem_of_getElem? (i:=4) rfl) (by kernel_rfl) rfl rfl (by kernel_rfl) (by kernel_rfl) (by kernel_rfl) ?cH (fun W hW=>⟨aM.trans hW.1,hW.2 aN⟩) ?aP ?aQ ?aR;case aP=>exact (List.forall_mem_cons.2 ⟨fun _ _ _ h _=>h,(List.forall_mem_cons.2 ⟨fun _ _ _ h _=>h,(List.forall_mem_cons.2 ⟨fun _ _ _ h _=>h,(List.forall_mem_cons.2 ⟨Zu rb mb A q c K 9 6 _ _,(List.forall_mem_cons.2 ⟨fun _ _ _ h _=>h,(fun _ h=>by cases h)⟩)⟩)⟩)⟩)⟩)
 case aQ=>
  refine (List.forall_mem_cons.2 ⟨?bE,(List.forall_mem_cons.2 ⟨?bF,(List.forall_mem_cons.2 ⟨?bG,(List.forall_mem_cons.2 ⟨Nz aO rfl rfl (fun ρ W=>Yu W ρ _ _ _ _ _),(List.forall_mem_cons.2 ⟨?bH,(fun _ h=>by cases h)⟩)⟩)⟩)⟩)⟩);case bE=>
   intro o ho us W hW hp Q' hQ';obtain rfl:=Option.some.inj ho;clear hp ho;rw[C2]at hQ' ⊢;dsimp only[E5,E6,List.foldl,zv,zaR]at hQ' ⊢;simp only[List.set_cons_succ,List.set_cons_zero];go_wp2_with fail;refine (HC.out W (aM.trans hW.1) (hW.2 aN)).mono ?_;rintro e W2 ⟨rfl,b2,r2⟩;go_wp2_with fail;exact C9 (hQ' _ _ ⟨b2,fun _=>r2⟩ rfl (fun h=>by cases h)) (by kernel_rfl)
  case bF=>intro o ho us W hW hp Q' hQ';obtain rfl:=Option.some.inj ho;have gu:us 5=(.tuple #[Cf n l,.int .i64 e]):=hp 0 _ rfl (by kernel_rfl);clear hp ho;rw[C2]at hQ' ⊢;dsimp only[E5,E6,List.foldl,zv,zaR]at hQ' ⊢;simp only[List.set_cons_succ,List.set_cons_zero];rw[gu]at hQ' ⊢;clear gu;go_wp2_with fail;exact C9 (hQ' _ _ ((Lw rb mb A q c K).refl _) rfl (fun h=>by cases h)) (by kernel_rfl)
  case bG=>intro o ho us W hW hp Q' hQ';obtain rfl:=Option.some.inj ho;have gu:us 6=(.tuple #[Cf n l,.int .i64 e]):=hp 1 _ rfl (by kernel_rfl);clear hp ho;rw[C2]at hQ' ⊢;dsimp only[E5,E6,List.foldl,zv,zaR]at hQ' ⊢;simp only[List.set_cons_succ,List.set_cons_zero];rw[gu]at hQ' ⊢;clear gu;go_wp2_with fail;exact C9 (hQ' _ _ ((Lw rb mb A q c K).refl _) rfl (fun h=>by cases h)) (by kernel_rfl)
  case bH=>intro o ho us W hW hp Q' hQ';obtain rfl:=Option.some.inj ho;have gu:us 6=(.tuple #[Cf n l,.int .i64 e]):=hp 1 _ rfl (by kernel_rfl);clear hp ho;rw[C2]at hQ' ⊢;dsimp only[E5,E6,List.foldl,zv,zaR]at hQ' ⊢;simp only[List.set_cons_succ,List.set_cons_zero];rw[gu]at hQ' ⊢;clear gu;go_wp2_with fail;exact C9 (hQ' _ _ ((Lw rb mb A q c K).refl _) rfl (fun h=>by cases h)) (by kernel_rfl)
 case cH=>
  intro us W hW hg;have gu:us 6=(.tuple #[Cf n l,.int .i64 e]):=hg _ (List.mem_of_getElem? (i:=1) rfl) (show (6:Nat)≠8 by decide);refine ⟨_,rfl,fun W' hW'=>?_⟩;clear hg;rw[C2];dsimp only[E6,List.foldl,zv,zaR];simp only[List.set_cons_succ,List.set_cons_zero];rw[gu];try simp only[pick,List.getElem?_cons_zero,List.getElem?_cons_succ]
  repeat (go_big_quiet_step (fail))
  refine wpQuiet_nil ?_;kernel_rfl
 case aR=>
 intro us W1 b1 hg bI bQ;have bR:us 5=(.tuple #[Cf n l,.int .i64 e]):=hg _ (List.mem_of_getElem? (i:=0) rfl);have bS:us 6=(.tuple #[Cf n l,.int .i64 e]):=hg _ (List.mem_of_getElem? (i:=1) rfl);have bT:us 7=Cf n l:=hg _ (List.mem_of_getElem? (i:=2) rfl);obtain⟨p,aS,kP,cS⟩:=hg _ (List.mem_of_getElem? (i:=3) rfl);have aS:us 9=.pointer (some ⟨p,0,none⟩):=aS;have bU:=(B6y (bQ _ (List.mem_of_getElem? (i:=3) rfl) rfl) aS).1;have bW:us 8=.int .i64 e:=hg _ (List.mem_of_getElem? (i:=4) rfl);rw[C2];dsimp only[E6,List.foldl,zv,zaR];simp only[List.set_cons_succ,List.set_cons_zero];rw[bR,bS,bT,aS,bW];clear hg bI bQ bR bS bT aS bW;have aT:=aM.trans b1.1;have bX:=b1.2 aN;have bY:=kR.grown aT (fun e=>by injection e with e;have:=HM.out;omega);have bZ:=bC.grown aT (fun e=>by injection e with e;exact bM e);have cT:g<w.heap.size:=cF;clear b1 aM aN aO kC kR bC;have bJ:=kP.canrt hz;have cI:rtL n l=33:=Y5 hl;have cJ:w.heap.size+2≤p:=by have h1:W0.heap.size≤p:=bU;rw[cE.out]at h1;exact h1
 obtain⟨W2,aF⟩:∃z,z=C4 W1 ⟨p,0,none⟩ (Q9 n l):=⟨_,rfl⟩;have bK:Bk W2 p 37 (Q9 n l):=by rw[aF];exact kP.putrt hz hl
 have bA:W0.grownBy W2 (some mb):=by rw[aF];exact O8 aT bU 0 _
 have aK:Rg W2 rb mb A q c K:=by rw[aF];exact HH.out.putNew bX (by omega) (Nat.le_trans HB.out.size aT.size) 0 _
 have bL:Bk W2 g 149 (Rm (some ⟨rb,0,none⟩) n0 h0 b):=by rw[aF];exact bZ.putFar (by show g≠p;omega) _
 have aU:Bk W2 (w.heap.size+1) 37 (Q9 0 (z8 32)):=by rw[aF];exact bY.putFar (by show w.heap.size+1≠p;omega) _
 clear bY;refine C3 10 (by kernel_rfl) (by rfl) (by rfl) (fun Q' hQ'=>?_);dsimp only[E5];have cA:=Lib.hid hQ';clear hQ';go_wp2_with fail;rw[←aF];refine cA.out _ _ ⟨bA,aK⟩ ?_;clear cA aF kP bZ bX aT bJ;refine C5 (A:=?cU) [11] (by kernel_rfl) (by kernel_rfl) rfl (by kernel_rfl) (by kernel_rfl) ⟨bA,aK⟩ (h:=fun W hW=>?cK) (hr:=?cV);case cK=>
  simp only[pick,List.getElem?_cons_zero,List.getElem?_cons_succ];repeat (go_big_quiet_step (fail))
  refine wpQuiet_nil ?_;rfl
 refine F0 (by kernel_rfl) ?_;have bB:w.grownBy W2 (some mb):=(S4 HB.out (Nat.le_refl _)).trans bA;obtain⟨t0,cB⟩:∃t,(e != 0)=t:=⟨_,rfl⟩;obtain⟨t1,cL⟩:∃t,(n==0)=t:=⟨_,rfl⟩;obtain⟨t2,cM⟩:∃t,decide (n<n0)=t:=⟨_,rfl⟩;obtain⟨t3,cN⟩:∃t,(n==n0)=t:=⟨_,rfl⟩;obtain⟨t4,cO⟩:∃t,(l==h0)=t:=⟨_,rfl⟩;have cC:syE n l e n0 h0=if t0=true then e else if t1=true then 80 else if t2=true then 220 else if (t3 && !(t3&&t4))=true then 130 else 0:=by unfold syE;rw[cB,cL,cM,cN,cO]
 have aL:=Lib.hid cC;have aV:∀(W3:World),Bk W3 (w.heap.size+1) 37 (Q9 0 (z8 32))→w.grownBy W3 (some mb)→Rg W3 rb mb A q c K→∀(m:Int) (h':List UInt8),h'.length=32→Bk (C4 W3 ⟨w.heap.size+1,0,none⟩ (Q9 m h')) (w.heap.size+1) 37 (Q9 m h')∧w.grownBy (C4 W3 ⟨w.heap.size+1,0,none⟩ (Q9 m h')) (some mb)∧Rg (C4 W3 ⟨w.heap.size+1,0,none⟩ (Q9 m h')) rb mb A q c K:=fun W3 k3 g3 r3 m h' hh'=>⟨k3.putrt hz hh',O8 g3 (Nat.le_succ _) 0 _,HH.out.putNew r3 (Nat.le_succ _) g3.size 0 _⟩
 have HF:=Lib.hid aV;have aB:=aU.canrt hz;have cP:rtL 0 (z8 32)=33:=Y5 hz;have e1:=Fg bK;have e2:=B3d bL;clear cC aV bA;cases t0 with
 | true=>
  have cD:e≠0:=by simpa using cB
  have HE:=Lib.hid cD;have hs:syE n l e n0 h0=e:=aL.out;have HS:=Lib.hid hs;clear cD hs;go_wp2_with fail;obtain⟨f1,f2,f3⟩:=HF.out W2 aU bB aK 0 (z8 32) hz;exact bodyPost_ret (I9 rfl (Ep f1 hz rfl) (H9.tmp rfl)) rfl ⟨by rw[(Wj HS.out HE.out).1,(Wj HS.out HE.out).2,HS.out];rfl,f2,f3⟩
 | false=>
  cases t1 with
  | true=>
   have hs:syE n l e n0 h0=80:=aL.out;have HS:=Lib.hid hs;clear hs;go_wp2_with fail;obtain⟨f1,f2,f3⟩:=HF.out W2 aU bB aK 0 (z8 32) hz;exact bodyPost_ret (I9 rfl (Ep f1 hz rfl) (H9.tmp rfl)) rfl ⟨by rw[(Wj HS.out (by decide)).1,(Wj HS.out (by decide)).2,HS.out];rfl,f2,f3⟩
  | false=>
   go_wp2_with fail;go_quiet (fail);obtain⟨W3,aG⟩:∃z,z=W2.drewN nq:=⟨_,rfl⟩;rw[←aG];have aC:Bk W3 (w.heap.size+1) 37 (Q9 0 (z8 32)):=by rw[aG];exact aU.drewN nq
   have aD:Bk W3 p 37 (Q9 n l):=by rw[aG];exact bK.drewN nq
   have aW:Bk W3 g 149 (Rm (some ⟨rb,0,none⟩) n0 h0 b):=by rw[aG];exact bL.drewN nq
   have aH:Rg W3 rb mb A q c K:=by rw[aG];exact aK.drewN nq
   have aI:w.grownBy W3 (some mb):=by rw[aG];exact bB.trans ⟨rfl,rfl,rfl,Nat.le_refl _,fun _ _ _=>rfl⟩
   clear aG aU bK bL aK bB e1 e2 aB;have aB:=aC.canrt hz;have e1:=Fg aD;have e2:=B3d aW;have r1:=aD.rowrt hl;have r2:=C0j aW hh0;cases t2 with
   | true=>
    have hs:syE n l e n0 h0=220:=aL.out;have HS:=Lib.hid hs;clear hs;go_wp2_with fail;obtain⟨f1,f2,f3⟩:=HF.out W3 aC aI aH 0 (z8 32) hz;exact bodyPost_ret (I9 rfl (Ep f1 hz rfl) (H9.tmp rfl)) rfl ⟨by rw[(Wj HS.out (by decide)).1,(Wj HS.out (by decide)).2,HS.out];rfl,f2,f3⟩
   | false=>
    cases t3 with
    | true=>
     cases t4 with
     | true=>
      have hs:syE n l e n0 h0=0:=aL.out;have HS:=Lib.hid hs;clear hs;go_wp2_with fail;go_quiet (fail);obtain⟨W4,aA⟩:∃z,z=W3.drewN nq:=⟨_,rfl⟩;rw[←aA];have aE:Bk W4 (w.heap.size+1) 37 (Q9 0 (z8 32)):=by rw[aA];exact aC.drewN nq
      have aX:Bk W4 p 37 (Q9 n l):=by rw[aA];exact aD.drewN nq
      have aY:Rg W4 rb mb A q c K:=by rw[aA];exact aH.drewN nq
      have aZ:w.grownBy W4 (some mb):=by rw[aA];exact aI.trans ⟨rfl,rfl,rfl,Nat.le_refl _,fun _ _ _=>rfl⟩
      clear aA aC aD aW aH aI e1 e2 r1 r2 aB;have aB:=aE.canrt hz;have r1:=aX.rowrt hl;go_wp2_with fail;obtain⟨f1,f2,f3⟩:=HF.out W4 aE aZ aY n l hl;exact bodyPost_ret (I9 rfl (Ep f1 hl rfl) (H9.tmp rfl)) rfl ⟨by rw[(A3o HS.out).1,(A3o HS.out).2,HS.out];rfl,f2,f3⟩
     | false=>
      have hs:syE n l e n0 h0=130:=aL.out;have HS:=Lib.hid hs;clear hs;go_wp2_with fail;go_quiet (fail);obtain⟨W4,aA⟩:∃z,z=W3.drewN nq:=⟨_,rfl⟩;rw[←aA];have aE:Bk W4 (w.heap.size+1) 37 (Q9 0 (z8 32)):=by rw[aA];exact aC.drewN nq
      have aX:Bk W4 p 37 (Q9 n l):=by rw[aA];exact aD.drewN nq
      have aY:Rg W4 rb mb A q c K:=by rw[aA];exact aH.drewN nq
      have aZ:w.grownBy W4 (some mb):=by rw[aA];exact aI.trans ⟨rfl,rfl,rfl,Nat.le_refl _,fun _ _ _=>rfl⟩
      clear aA aC aD aW aH aI e1 e2 r1 r2 aB;have aB:=aE.canrt hz;have r1:=aX.rowrt hl;go_wp2_with fail;obtain⟨f1,f2,f3⟩:=HF.out W4 aE aZ aY 0 (z8 32) hz;exact bodyPost_ret (I9 rfl (Ep f1 hz rfl) (H9.tmp rfl)) rfl ⟨by rw[(Wj HS.out (by decide)).1,(Wj HS.out (by decide)).2,HS.out];rfl,f2,f3⟩
    | false=>
     have hs:syE n l e n0 h0=0:=aL.out;have HS:=Lib.hid hs;clear hs;go_wp2_with fail;go_quiet (fail);obtain⟨W4,aA⟩:∃z,z=W3.drewN nq:=⟨_,rfl⟩;rw[←aA];have aE:Bk W4 (w.heap.size+1) 37 (Q9 0 (z8 32)):=by rw[aA];exact aC.drewN nq
     have aX:Bk W4 p 37 (Q9 n l):=by rw[aA];exact aD.drewN nq
     have aY:Rg W4 rb mb A q c K:=by rw[aA];exact aH.drewN nq
     have aZ:w.grownBy W4 (some mb):=by rw[aA];exact aI.trans ⟨rfl,rfl,rfl,Nat.le_refl _,fun _ _ _=>rfl⟩
     clear aA aC aD aW aH aI e1 e2 r1 r2 aB;have aB:=aE.canrt hz;have r1:=aX.rowrt hl;go_wp2_with fail;obtain⟨f1,f2,f3⟩:=HF.out W4 aE aZ aY n l hl;exact bodyPost_ret (I9 rfl (Ep f1 hl rfl) (H9.tmp rfl)) rfl ⟨by rw[(A3o HS.out).1,(A3o HS.out).2,HS.out];rfl,f2,f3⟩
end
end
section
structure GrX (X : List Nat) (w w' : World) : Prop where
 os:w'.os=w.os
 tape:w'.tape=w.tape
 output:w'.output=w.output
 size:w.heap.size≤w'.heap.size
 block:∀k,k<w.heap.size→k∉X→w'.heap[k]?=w.heap[k]?
section
variable {w w' w2 : World} {X : List Nat}
theorem GrX.trans (h:GrX X w w') (k:GrX X w' w2):GrX X w w2:=⟨k.os.trans h.os,k.tape.trans h.tape,k.output.trans h.output,Nat.le_trans h.size k.size,fun i hi hn=>(k.block i (Nat.lt_of_lt_of_le hi h.size) hn).trans (h.block i hi hn)⟩
theorem GrX.of {g:Nat} (h:w.grownBy w' (some g)) (hg:g∈X):GrX X w w':=⟨h.os,h.tape,h.output,h.size,fun k hk hn=>h.block k hk (fun e=>by injection e with e;subst e;exact hn hg)⟩
theorem GrX.grown {v:World} {g:Nat} (h:GrX X w w') (h0:v.grownBy w (some g)) (hX:∀x∈X,x≠g→v.heap.size≤x):v.grownBy w' (some g):=
 ⟨h.os.trans h0.os,h.tape.trans h0.tape,h.output.trans h0.output,Nat.le_trans h0.size h.size,fun k hk hn=>(h.block k (Nat.lt_of_lt_of_le hk h0.size) (fun hx=>by have:=hX k hx (fun e=>hn (by rw[e]));omega)).trans (h0.block k hk hn)⟩
end
section
variable {w w' : World} {rb mb q c : Nat} {A : Option Addr} {K : List (List UInt8)}
theorem E1t (h:Rg w rb mb A q c K) {g:Nat} {n0:Int} {h0:List UInt8} {b:Option Nat} (hk:Bk w g 149 (Rm (some ⟨rb,0,none⟩) n0 h0 b)) (hh0:h0.length=32)
 (A1 A2 A3:Option Addr) (n1 c1 n2 c2 n3 c3:Nat) (n':Int) (l':List UInt8) (e':Int) (hl':l'.length=32) (hc:RtC rb mb A q c K w (.agg #[.slice A1 n1 c1,.slice A2 n2 c2,.slice A3 n3 c3]) n' l' e') (hsy:syE n' l' e' n0 h0≠0) :
 Calls Tryz.prog 26 #[.pointer (some ⟨g,0,none⟩),.agg #[.slice A1 n1 c1,.slice A2 n2 c2,.slice A3 n3 c3]] w fun x w'=>
  x=.returned (.int .i64 (syE n' l' e' n0 h0))∧w.grownBy w' (some mb)∧Rg w' rb mb A q c K:=by
 obtain⟨W0,aB⟩:∃z,z=w.alloc (Obj.cells #[.slice A1 n1 c1,.slice A2 n2 c2,.slice A3 n3 c3] 33):=⟨_,rfl⟩;have kC:Bk W0 w.heap.size 33 [.slice A1 n1 c1,.slice A2 n2 c2,.slice A3 n3 c3]:=by rw[aB];exact Bk.new w _ _
 have B0:Below w.heap.size w W0:=by rw[aB];exact (Below.refl _ _).alloc (Nat.le_refl _) _
 have S0:W0.heap.size=w.heap.size+1:=by rw[aB];simp
 have hz:(z8 32).length=32:=I1 32;have aV:=h.apart hk;have aW:=h.mlt;have aX:=h.up B0;have aK:=hk.below B0 hk.lt;have aY:=hc.later (S4 B0 (Nat.le_refl _));have aC:W0.grownBy W0.drew (some mb):=⟨rfl,rfl,rfl,Nat.le_refl _,fun _ _ _=>rfl⟩;have aD:Rg W0.drew rb mb A q c K:=aX.up ((Below.refl _ _).drew);have aE:mb<W0.drew.heap.size:=aX.mlt;have hs:∀W,W0.grownBy W (some mb)→Rg W rb mb A q c K→Calls Tryz.prog 66 #[.pointer (some ⟨g,0,none⟩),.agg #[.slice A1 n1 c1,.slice A2 n2 c2,.slice A3 n3 c3]] W fun x w'=>x=.returned (.tuple #[Cf (syN n' l' e' n0 h0) (syH n' l' e' n0 h0),.int .i64 (syE n' l' e' n0 h0)])∧W.grownBy w' (some mb)∧Rg w' rb mb A q c K:=
  fun W hg hR=>B0o hR (aK.grown hg (fun e=>by injection e with e;exact aV e)) hh0 A1 A2 A3 n1 c1 n2 c2 n3 c3 n' l' e' hl' (aY.later hg)
 have hl:(syH n' l' e' n0 h0).length=32:=B5g hl';obtain⟨n,hn⟩:∃y,y=syN n' l' e' n0 h0:=⟨_,rfl⟩;obtain⟨l,aL⟩:∃y,y=syH n' l' e' n0 h0:=⟨_,rfl⟩;obtain⟨e,he⟩:∃y,y=syE n' l' e' n0 h0:=⟨_,rfl⟩;rw[←hn,←aL,←he]at hs;rw[←aL]at hl;rw[←he]at hsy ⊢;have bQ:(e==0)=false:=beq_eq_false_iff_ne.2 hsy;have HH:=Lib.hid h;have HC:=Lib.hid hs;have HB:=Lib.hid B0;have bI:=Lib.hid S0;have bJ:=hk.lt;have HM:=Lib.hid aW;clear h hc aY hk B0 S0 aW hs hn aL he hsy;go_enter Tryz.func26,Tryz.ntmps26;go_wp2_with fail;rw[←aB];clear aB;refine E3 (fun W=>W0.grownBy W (some mb)∧Rg W rb mb A q c K) (by kernel_rfl) ?_;refine C5 (A:=?bR) [0,1,2,3] (by kernel_rfl) (by kernel_rfl) rfl (by kernel_rfl) (by kernel_rfl) ⟨aC,aD⟩ (h:=fun W hW=>?bK) (hr:=?bS);case bK=>
  have aM:=kC.grown hW.1 (fun e=>by injection e with e;have:=HM.out;omega);have k0:=aM.at_ (i:=0) rfl;have k1:=aM.at_ (i:=1) rfl;have k2:=aM.at_ (i:=2) rfl;simp only[pick,List.getElem?_cons_zero,List.getElem?_cons_succ];repeat (go_big_quiet_step (fail))
  refine wpQuiet_nil ?_;rfl
 refine Qv (Lw rb mb A q c K) [zv 4 14 (.tuple #[Cf n l,.int .i64 e]),zv 5 9 (.tuple #[Cf n l,.int .i64 e]),zv 6 15 (Cf n l),zaR mb 8 5 37 (Q9 0 (z8 32)),zv 7 16 (.int .i64 e)] (zv 7 16 (.int .i64 e)) (List.mem_of_getElem? (i:=4) rfl) (by kernel_rfl) rfl rfl (by kernel_rfl) (by kernel_rfl) (by kernel_rfl) ?bL (fun W hW=>⟨aC.trans hW.1,hW.2 aD⟩) ?aF ?aG ?aH;case aF=>exact (List.forall_mem_cons.2 ⟨fun _ _ _ h _=>h,(List.forall_mem_cons.2 ⟨fun _ _ _ h _=>h,(List.forall_mem_cons.2 ⟨fun _ _ _ h _=>h,(List.forall_mem_cons.2 ⟨Zu rb mb A q c K 8 5 _ _,(List.forall_mem_cons.2 ⟨fun _ _ _ h _=>h,(fun _ h=>by cases h)⟩)⟩)⟩)⟩)⟩)
 case aG=>
  refine (List.forall_mem_cons.2 ⟨?aN,(List.forall_mem_cons.2 ⟨?aO,(List.forall_mem_cons.2 ⟨?aP,(List.forall_mem_cons.2 ⟨Nz aE rfl rfl (fun ρ W=>Yu W ρ _ _ _ _ _),(List.forall_mem_cons.2 ⟨?aQ,(fun _ h=>by cases h)⟩)⟩)⟩)⟩)⟩);case aN=>
   intro o ho us W hW hp Q' hQ';obtain rfl:=Option.some.inj ho;clear hp ho;rw[C2]at hQ' ⊢;dsimp only[E5,E6,List.foldl,zv,zaR]at hQ' ⊢;simp only[List.set_cons_succ,List.set_cons_zero];go_wp2_with fail;refine (HC.out W (aC.trans hW.1) (hW.2 aD)).mono ?_;rintro e W2 ⟨rfl,b2,r2⟩;go_wp2_with fail;exact C9 (hQ' _ _ ⟨b2,fun _=>r2⟩ rfl (fun h=>by cases h)) (by kernel_rfl)
  case aO=>intro o ho us W hW hp Q' hQ';obtain rfl:=Option.some.inj ho;have gu:us 4=(.tuple #[Cf n l,.int .i64 e]):=hp 0 _ rfl (by kernel_rfl);clear hp ho;rw[C2]at hQ' ⊢;dsimp only[E5,E6,List.foldl,zv,zaR]at hQ' ⊢;simp only[List.set_cons_succ,List.set_cons_zero];rw[gu]at hQ' ⊢;clear gu;go_wp2_with fail;exact C9 (hQ' _ _ ((Lw rb mb A q c K).refl _) rfl (fun h=>by cases h)) (by kernel_rfl)
  case aP=>intro o ho us W hW hp Q' hQ';obtain rfl:=Option.some.inj ho;have gu:us 5=(.tuple #[Cf n l,.int .i64 e]):=hp 1 _ rfl (by kernel_rfl);clear hp ho;rw[C2]at hQ' ⊢;dsimp only[E5,E6,List.foldl,zv,zaR]at hQ' ⊢;simp only[List.set_cons_succ,List.set_cons_zero];rw[gu]at hQ' ⊢;clear gu;go_wp2_with fail;exact C9 (hQ' _ _ ((Lw rb mb A q c K).refl _) rfl (fun h=>by cases h)) (by kernel_rfl)
  case aQ=>intro o ho us W hW hp Q' hQ';obtain rfl:=Option.some.inj ho;have gu:us 5=(.tuple #[Cf n l,.int .i64 e]):=hp 1 _ rfl (by kernel_rfl);clear hp ho;rw[C2]at hQ' ⊢;dsimp only[E5,E6,List.foldl,zv,zaR]at hQ' ⊢;simp only[List.set_cons_succ,List.set_cons_zero];rw[gu]at hQ' ⊢;clear gu;go_wp2_with fail;exact C9 (hQ' _ _ ((Lw rb mb A q c K).refl _) rfl (fun h=>by cases h)) (by kernel_rfl)
 case bL=>
  intro us W hW hg;have gu:us 5=(.tuple #[Cf n l,.int .i64 e]):=hg _ (List.mem_of_getElem? (i:=1) rfl) (show (5:Nat)≠7 by decide);refine ⟨_,rfl,fun W' hW'=>?_⟩;clear hg;rw[C2];dsimp only[E6,List.foldl,zv,zaR];simp only[List.set_cons_succ,List.set_cons_zero];rw[gu];try simp only[pick,List.getElem?_cons_zero,List.getElem?_cons_succ]
  repeat (go_big_quiet_step (fail))
  refine wpQuiet_nil ?_;kernel_rfl
 case aH=>
 intro us W1 b1 hg aR aZ;have bA:us 4=(.tuple #[Cf n l,.int .i64 e]):=hg _ (List.mem_of_getElem? (i:=0) rfl);have bB:us 5=(.tuple #[Cf n l,.int .i64 e]):=hg _ (List.mem_of_getElem? (i:=1) rfl);have bC:us 6=Cf n l:=hg _ (List.mem_of_getElem? (i:=2) rfl);obtain⟨p,aI,kP,bT⟩:=hg _ (List.mem_of_getElem? (i:=3) rfl);have aI:us 8=.pointer (some ⟨p,0,none⟩):=aI;have bD:=(B6y (aZ _ (List.mem_of_getElem? (i:=3) rfl) rfl) aI).1;have bE:us 7=.int .i64 e:=hg _ (List.mem_of_getElem? (i:=4) rfl);rw[C2];dsimp only[E6,List.foldl,zv,zaR];simp only[List.set_cons_succ,List.set_cons_zero];rw[bA,bB,bC,aI,bE];clear hg aR aZ bA bB bC aI bE;have aJ:=aC.trans b1.1;have bF:=b1.2 aD;have bG:=aK.grown aJ (fun e=>by injection e with e;exact aV e);have bU:g<w.heap.size:=bJ;clear b1 aC aD aE aK;have aS:=kP.canrt hz;have bM:rtL n l=33:=Y5 hl;have bN:w.heap.size+1≤p:=by have h1:W0.heap.size≤p:=bD;rw[bI.out]at h1;exact h1
 obtain⟨W2,aA⟩:∃z,z=C4 W1 ⟨p,0,none⟩ (Q9 n l):=⟨_,rfl⟩;have bW:Bk W2 p 37 (Q9 n l):=by rw[aA];exact kP.putrt hz hl
 have aT:W0.grownBy W2 (some mb):=by rw[aA];exact O8 aJ bD 0 _
 have aU:Rg W2 rb mb A q c K:=by rw[aA];exact HH.out.putNew bF (by omega) (Nat.le_trans HB.out.size aJ.size) 0 _
 have bX:Bk W2 g 149 (Rm (some ⟨rb,0,none⟩) n0 h0 b):=by rw[aA];exact bG.putFar (by show g≠p;omega) _
 refine C3 9 (by kernel_rfl) (by rfl) (by rfl) (fun Q' hQ'=>?_);dsimp only[E5];have bH:=Lib.hid hQ';clear hQ';go_wp2_with fail;rw[←aA];refine bH.out _ _ ⟨aT,aU⟩ ?_;clear bH aA kP bG bF aJ aS;refine C5 (A:=?bY) [10] (by kernel_rfl) (by kernel_rfl) rfl (by kernel_rfl) (by kernel_rfl) ⟨aT,aU⟩ (h:=fun W hW=>?bO) (hr:=?bZ);case bO=>
  simp only[pick,List.getElem?_cons_zero,List.getElem?_cons_succ];repeat (go_big_quiet_step (fail))
  refine wpQuiet_nil ?_;rfl
 refine F0 (by kernel_rfl) ?_;have bP:w.grownBy W2 (some mb):=(S4 HB.out (Nat.le_refl _)).trans aT;go_wp2_with fail;go_ret;exact ⟨rfl,bP,aU⟩
theorem B5q (A A':Option Addr) (c c':Nat) (w:World):Calls Tryz.prog 68 #[.slice A 0 c,.slice A' 0 c'] w fun x w'=>x=.returned (.bool true)∧w'=w:=by
 go_enter Tryz.func68,Tryz.ntmps68;go_wp2_with fail;go_loopw [5,13] (fun _ x wr=>x=.int .i64 0∧w=wr) (fun _ _ _=>0)
 case atStart=>exact ⟨rfl,rfl⟩
 case round=>obtain⟨rfl,rfl⟩:=hrel;go_wp2_with fail;go_ret;exact ⟨rfl,rfl⟩
end
end
end Go.Proofs.YtdfpoofbgjilgaaGreat
