/- A part of the proof of DirBuilds. -/
import Derived.Test.YtlegpkdighoflaaGreatSay
set_option linter.unusedVariables false
set_option linter.unusedSimpArgs false
set_option maxRecDepth 100000
set_option maxHeartbeats 40000000
namespace Go.Proofs.YtlegpkdighoflaaGreat
open Go Go.RowKit Sh
section
def C5u (l:List Oper) (done zs:List Nat) (ds:List Nat):Bool:=
 inOrder l&&dcB l done&&zs.all (fun z=>!done.contains z&&(match l[z]? with | some _=>true | none=>false))&&decide zs.Nodup&&decide ds.Nodup&&decide (done.length+zs.length≤l.length)
  && (List.range l.length).all fun r=>done.contains r||zs.contains r||zs.all fun z=>A2v l l.length r z
section
variable {P : Program} {l : List Oper} {Q : Exit → Act → World → Prop} {S : World → Prop}
theorem Zd {done:List Nat} {a:Act} {w:World} (Z:List Soup) (hB:C5u l done (Z.map (·.at_)) (Z.map (·.dst))=true)
 (hgd:∀z∈Z,∀o,l[z.at_]?=some o→∀us,Region.wanted o (yielded l.toArray (X8 Z us a).tmps)=true)
 (hS:∀W,Below w.heap.size w W→S W) (hm:∀z∈Z,z.mono) (hstep:∀z∈Z,A0y P l a w Z z)
 (hr:∀us W,Below w.heap.size w W→(∀z∈Z,z.good (us z.at_) W)→(∀y∈Z,∀z∈Z,y.fresh=true→z.fresh=true→y.at_≠z.at_→Ie (us y.at_)≠Ie (us z.at_))→
  (∀z∈Z,z.fresh=true→∃b,Ie (us z.at_)=some b∧w.heap.size≤b∧b<W.heap.size)→X9 P l Q S (done++Z.map (·.at_)) (X8 Z us a) W):X9 P l Q S done a w:=by
 simp only[C5u,Bool.and_eq_true,decide_eq_true_eq,List.all_eq_true,Bool.or_eq_true,List.mem_range,Bool.not_eq_true']at hB;obtain⟨⟨⟨⟨⟨⟨aF,aL⟩,bP⟩,aT⟩,bQ⟩,aX⟩,aM⟩:=hB;have aG:∀z∈Z,z.at_<l.length∧z.at_∉done∧∃o,l[z.at_]?=some o:=by
  intro z hz;obtain⟨h1,h2⟩:=bP z.at_ (List.mem_map_of_mem hz);cases ho:l[z.at_]? with
  | none=>rw[ho]at h2;cases h2
  | some o=>
   rw[ho]at h2;refine ⟨(List.getElem?_eq_some_iff.1 ho).1,fun h=>?_,o,rfl⟩;rw[List.contains_iff_mem.2 h]at h1;cases h1
 have aY:∀(m:Nat) (D:List Nat) (us:Nat→Value) (W:World),D.length+m=Z.length→D.Nodup→(∀i∈D,∃z∈Z,z.at_=i)→Below w.heap.size w W→
  (∀i o,l[i]?=some o→i∈done++D→∀e∈o.after,Region.binds .any e=true→e.on∈done++D)→
  (∀z∈Z,z.at_∈D→z.good (us z.at_) W)→(∀y∈Z,∀z∈Z,y.at_∈D→z.at_∈D→y.fresh=true→z.fresh=true→y.at_≠z.at_→Ie (us y.at_)≠Ie (us z.at_))→
  (∀z∈Z,z.at_∈D→z.fresh=true→∃b,Ie (us z.at_)=some b∧w.heap.size≤b∧b<W.heap.size)→X9 P l Q S (done++D) (X8 Z us a) W:=by
  intro m;induction m with
  | zero=>
   intro D us W hl aZ hD hW bB hg aH aN;have aB:∀z∈Z,z.at_∈D:=by
    intro z hz;apply Classical.byContradiction;intro hn;have aI:D ⊆ (Z.map (·.at_)).erase z.at_:=by
     intro i hi;obtain⟨y,hy,rfl⟩:=hD i hi;exact (List.mem_erase_of_ne (fun e=>hn (by rw[←e];exact hi))).2 (List.mem_map_of_mem hy)
    have h1:=Oc _ _ aZ aI;rw[List.length_erase_of_mem (List.mem_map_of_mem hz),List.length_map]at h1;have h2:0<Z.length:=List.length_pos_of_mem hz;omega
   have hp:∀i,i∈done++D↔i∈done++Z.map (·.at_):=by
    intro i;simp only[List.mem_append,List.mem_map];constructor
    ·rintro (h | h)
     ·exact .inl h
     ·exact .inr (hD i h)
    ·rintro (h | ⟨z,hz,rfl⟩)
     ·exact .inl h
     ·exact .inr (aB z hz)
   have h:=hr us W hW (fun z hz=>hg z hz (aB z hz)) (fun y hy z hz=>aH y hy z hz (aB y hy) (aB z hz)) (fun z hz=>aN z hz (aB z hz));unfold X9 at h ⊢;rw[Uu hp];rw[show (done++D).length=(done++Z.map (·.at_)).length by simp;omega];exact h
  | succ m ih=>
   intro D us W hl aZ hD hW bB hg aH aN;have bI:(done++D).length<l.length:=by simp only[List.length_append];rw[List.length_map]at aX;omega
   have bC:∀(i:Nat) (o:Oper),l[i]?=some o→(O8 l.length (done++D)).getD i false=true→∀e∈o.after,Region.binds .any e=true→(O8 l.length (done++D)).getD e.on false=true:=by intro i o ho hi e he hb;have aU:=(List.getElem?_eq_some_iff.1 ho).1;rw[Z7 _ _ _ _ aU]at hi;have h1:=bB i o ho (by simpa using hi) e he hb;have h2:=Ea aF ho e he hb;rw[Z7 _ _ _ _ (by omega)];simpa using h1
   have aO:∃z∈Z,z.at_∉D:=by
    apply Classical.byContradiction;intro hn;have aI:Z.map (·.at_) ⊆ D:=by
     intro i hi;obtain⟨z,hz,rfl⟩:=List.mem_map.1 hi;apply Classical.byContradiction;intro h;exact hn ⟨z,hz,h⟩
    have h1:=Oc _ _ aT aI;rw[List.length_map]at h1;omega
   obtain⟨z0,aJ,bJ⟩:=aO;have bR:Region.ready .any l.toArray (O8 l.length (done++D))≠[]:=by
    intro h;have h1:=Ni aF (Kf _ _) h z0.at_ (aG z0 aJ).1;rw[Z7 _ _ _ _ (aG z0 aJ).1]at h1;have h2:z0.at_∈done++D:=by simpa using h1
    rcases List.mem_append.1 h2 with h | h
    ·exact (aG z0 aJ).2.1 h
    ·exact bJ h
   refine Mt (rs:=Region.ready .any l.toArray (O8 l.length (done++D))) (by simp only[Eh,Bool.and_eq_true,beq_self_eq_true,decide_eq_true_eq,true_and];exact bI) bR fun i hi=>?_;obtain⟨h1,o,h2,h3⟩:=mem_ready.1 hi;have aE:l[i]?=some o:=by simpa using h2
   have aU:=(List.getElem?_eq_some_iff.1 aE).1;have bK:i∉done++D:=by rw[Z7 _ _ _ _ aU]at h1;simpa using h1
   have bS:∃z∈Z,z.at_=i:=by
    have hh:=aM i aU;rcases hh with (hh | hh) | hh
    ·exact absurd (List.mem_append_left _ (List.contains_iff_mem.1 hh)) bK
    ·obtain⟨z,hz,e⟩:=List.mem_map.1 (List.contains_iff_mem.1 hh);exact ⟨z,hz,e⟩
    ·have bT:=hh z0.at_ (List.mem_map_of_mem aJ);have bL:=Mu bC _ _ _ bT fun o' aD e he hb=>by
      rw[aE]at aD;injection aD with aD;subst aD;exact h3 e he hb
     rw[Z7 _ _ _ _ (aG z0 aJ).1]at bL;have h2:z0.at_∈done++D:=by simpa using bL
     rcases List.mem_append.1 h2 with h | h
     ·exact absurd h (aG z0 aJ).2.1
     ·exact absurd h bJ
   obtain⟨z,hz,rfl⟩:=bS;obtain⟨_,bU,oz,aV⟩:=aG z hz;rw[aE]at aV;injection aV with aV;subst aV;have aC:∀e∈o.after,Region.binds .any e=true→e.on∈done++D:=by
    intro e he hb;have h4:=h3 e he hb;have h5:=Ea aF aE e he hb;rw[Z7 _ _ _ _ (by omega)]at h4;simpa using h4
   refine A6z aE (hgd z hz _ aE us) (fun Q' hQ'=>?_) bI;refine hstep z hz o aE us W hW (fun k y hk hy=>?_) Q' (fun v W' hb hgv hfv=>?_)
   ·have bM:y∈Z:=List.mem_of_getElem? hk;simp only[Array.any_eq_true',Bool.and_eq_true,beq_iff_eq]at hy;obtain⟨e,he,aW,bV⟩:=hy;have h6:=aC e he aW;rw[bV]at h6;rcases List.mem_append.1 h6 with h | h
    ·exact absurd h (aG y bM).2.1
    ·exact hg y bM h
   ·have bN:Below w.heap.size w W':=hW.trans (hb.mono hW.size);refine hQ' _ _ (hS _ bN) ?_;rw[Ol Z us a z v hz aT bQ,List.append_assoc];have bO:z.at_∉D:=fun h=>bK (List.mem_append_right _ h);have hu:∀y:Soup,y.at_∈D→Gb us z.at_ v y.at_=us y.at_:=fun y hy=>by
     have:y.at_≠z.at_:=fun e=>bO (by rw[←e];exact hy);simp[Gb,this]
    have aA:∀y∈Z,y.at_=z.at_→y=z:=fun y hy e=>A2k Z aT y hy z hz e;refine ih (D++[z.at_]) _ W' (by simp;omega) ?_ ?_ bN ?_ ?_ ?_ ?_
    ·rw[List.nodup_append];exact ⟨aZ,by simp,fun x hx y hy e=>bO (by simp at hy;rw[←hy,←e];exact hx)⟩
    ·intro i hi;rcases List.mem_append.1 hi with hi | hi
     ·exact hD i hi
     ·exact ⟨z,hz,(by simpa using hi:i=z.at_).symm⟩
    ·intro i o' aD hi e he aW;rw[←List.append_assoc]at hi ⊢;rcases List.mem_append.1 hi with hi | hi
     ·exact List.mem_append_left _ (bB i o' aD hi e he aW)
     ·have:i=z.at_:=by simpa using hi
      subst this;rw[aE]at aD;injection aD with aD;subst aD;exact List.mem_append_left _ (aC e he aW)
    ·intro y hy aP;rcases List.mem_append.1 aP with h | h
     ·rw[hu y h];exact hm y hy _ _ _ (hg y hy h) hb
     ·have:y.at_=z.at_:=by simpa using h
      have:=aA y hy this;subst this;simpa [Gb] using hgv
    ·intro y hy x hx aP bX aK bD aQ;rcases List.mem_append.1 aP with h | h<;>rcases List.mem_append.1 bX with h' | h'
     ·rw[hu y h,hu x h'];exact aH y hy x hx h h' aK bD aQ
     ·have:=aA x hx (by simpa using h');subst this;obtain⟨b,aR,bE,bF⟩:=hfv bD;obtain⟨c,aS,bG,bH⟩:=aN y hy h aK;rw[hu y h,aS,show Gb us x.at_ v x.at_=v by simp[Gb],aR];intro e;injection e with e;omega
     ·have:=aA y hy (by simpa using h);subst this;obtain⟨b,aR,bE,bF⟩:=hfv aK;obtain⟨c,aS,bG,bH⟩:=aN x hx h' bD;rw[hu x h',aS,show Gb us y.at_ v y.at_=v by simp[Gb],aR];intro e;injection e with e;omega
     ·exact absurd (by rw[aA y hy (by simpa using h),aA x hx (by simpa using h')]) aQ
    ·intro y hy aP aK;rcases List.mem_append.1 aP with h | h
     ·obtain⟨c,aS,bG,bH⟩:=aN y hy h aK;exact ⟨c,by rw[hu y h,aS],bG,Nat.lt_of_lt_of_le bH hb.size⟩
     ·have:=aA y hy (by simpa using h);subst this;obtain⟨b,aR,bE,bF⟩:=hfv aK;exact ⟨b,by simpa [Gb] using aR,Nat.le_trans hW.size bE,bF⟩
 obtain⟨us,bY⟩:=Wx Z (fun z=>a.tmps.getD z.dst undef) aT;have h:=aY Z.length [] us w (by simp) (by simp) (by simp) (Below.refl _ _) (fun i o ho hi e he hb=>?_) (by simp) (by simp) (by simp)
 ·rw[Nf Z us a bY,List.append_nil]at h;exact h
 ·rw[List.append_nil]at hi ⊢;unfold dcB at aL;have h1:=List.all_eq_true.1 aL i hi;rw[ho]at h1;have h2:=Array.all_eq_true_iff_forall_mem.1 h1 e he;rw[hb]at h2;exact List.contains_iff_mem.1 (by simpa using h2)
end
end
noncomputable def signedB (u:UV):Bool:=decide (1≤u.ver)&&(decide (u.ver≤64)&&Ff u.id 1 (X7 u.ver u.key) u.sig)
theorem B6a {u:UV} (h:decide (1≤u.ver)=false):signedB u=false:=by unfold signedB;rw[h,Bool.false_and]
theorem B5b {u:UV} (h:decide (u.ver≤64)=false):signedB u=false:=by unfold signedB;rw[h,Bool.false_and,Bool.and_false]
theorem A1h {u:UV} (h:decide (1≤u.ver)=true) (h2:decide (u.ver≤64)=true):signedB u=Ff u.id 1 (X7 u.ver u.key) u.sig:=by unfold signedB;rw[h,h2,Bool.true_and,Bool.true_and]
theorem A2l (u:UV) (hu:u.Ok) (w:World):Calls Tryz.prog 27 #[Uc u] w fun e w'=>e=.returned (.bool (signedB u))∧Below w.heap.size w w':=by
 have aV:=hu.id;have aW:=hu.key;have aX:=hu.sig;have aY:=hu.len;obtain⟨W0,aE⟩:∃z,z=(w.alloc (Obj.cells (Aw u).toArray 63)):=⟨_,rfl⟩;have hL:W0=Q5 w [(63,(Aw u))]:=aE;have B0:Below w.heap.size w W0:=by rw[hL];exact J9 _ _
 have aA:Bk W0 (w.heap.size) 63 (Aw u):=by rw[hL];exact F9 _ w 0 _ _ rfl
 have z0:w.heap.size+1≤W0.heap.size:=by rw[hL,H9];simp
 have aQ:W0.heap.size=w.heap.size+1:=by rw[hL,H9];rfl
 clear hL;by_cases h1:1≤u.ver
 ·
  by_cases h2:u.ver≤64
  ·
   have d1:decide (1≤u.ver)=true:=decide_eq_true h1;have d2:decide (u.ver≤64)=true:=decide_eq_true h2;have HV:=Lib.hid (A1h d1 d2);go_enter Tryz.func27,Tryz.ntmps27;go_wp2_with fail;rw[←aE];clear aE aQ;have S1:Below W0.heap.size W0 W0.drew:=(Below.refl _ _).drew;refine F2 (fun W=>Bk W (w.heap.size) 63 (Aw u)) (by kernel_rfl) ?_;refine C6 (A:=?aZ) [0,1,2,3,4,5,6,7,8,9,10,11,12,13,14,16,17] (by kernel_rfl) (by kernel_rfl) rfl (by kernel_rfl) (by kernel_rfl) (aA.drew) (h:=fun W hW=>?aR) (hr:=?bB);case aR=>
    have f1:=UV.loadver (hW) hu;have f10:=UV.loadid (hW) hu;have bC:=UV.loadkey (hW) hu;have bD:=UV.loadsig (hW) hu;simp only[pick,List.getElem?_cons_zero,List.getElem?_cons_succ];repeat (go_big_quiet_step (fail))
    refine wpQuiet_nil ?_;rfl
   refine Zd [zb 15 18 (X7 u.ver u.key),zv 18 21 (.bool (Ff u.id 1 (X7 u.ver u.key) u.sig)),zv 19 22 (.bool (Ff u.id 1 (X7 u.ver u.key) u.sig)),zv 20 2 (.bool (Ff u.id 1 (X7 u.ver u.key) u.sig))] (by kernel_rfl) ?aS (fun W hW=>(aA.drew.below hW aA.drew.lt)) ?aF ?aG ?aH;case aF=>exact (List.forall_mem_cons.2 ⟨zb_mono _ _ _,(List.forall_mem_cons.2 ⟨H7 _ _ _,(List.forall_mem_cons.2 ⟨H7 _ _ _,(List.forall_mem_cons.2 ⟨H7 _ _ _,(fun _ h=>by cases h)⟩)⟩)⟩)⟩)
   case aS=>exact (List.forall_mem_cons.2 ⟨(fun o ho us=>by obtain rfl:=Option.some.inj ho;kernel_rfl),(List.forall_mem_cons.2 ⟨(fun o ho us=>by obtain rfl:=Option.some.inj ho;kernel_rfl),(List.forall_mem_cons.2 ⟨(fun o ho us=>by obtain rfl:=Option.some.inj ho;kernel_rfl),(List.forall_mem_cons.2 ⟨(fun o ho us=>by obtain rfl:=Option.some.inj ho;kernel_rfl),(fun _ h=>by cases h)⟩)⟩)⟩)⟩)
   case aG=>
    refine (List.forall_mem_cons.2 ⟨?aI,(List.forall_mem_cons.2 ⟨?aJ,(List.forall_mem_cons.2 ⟨?aK,(List.forall_mem_cons.2 ⟨?aL,(fun _ h=>by cases h)⟩)⟩)⟩)⟩);case aI=>
     intro o ho us W hW hp Q' hQ';obtain rfl:=Option.some.inj ho;clear hp ho;rw[C2]at hQ' ⊢;dsimp only[E4,E0,List.foldl,zv,za,zs,zp,zb]at hQ' ⊢;simp only[List.set_cons_succ,List.set_cons_zero];go_wp2_with fail;refine (B0p u.ver u.key hu.key W).mono ?_;rintro e W2 ⟨v2,rfl,aO,b2⟩;have aO:=Lib.hid aO;go_wp2_with fail;exact C5 (hQ' _ _ b2 aO.out.same (fun h=>by cases h)) (by kernel_rfl)
    case aJ=>intro o ho us W hW hp Q' hQ';obtain rfl:=Option.some.inj ho;have aC:By W 0 W.heap.size (us 15) (X7 u.ver u.key):=hp 0 _ rfl (by kernel_rfl);have aC:=Lib.hid aC;clear hp ho;rw[C2]at hQ' ⊢;dsimp only[E4,E0,List.foldl,zv,za,zs,zp,zb]at hQ' ⊢;simp only[List.set_cons_succ,List.set_cons_zero];go_wp2_with fail;refine (B3t u.id _ (X7 u.ver u.key) u.sig hu.id hu.sig W aC.out (by rw[Vg u.ver hu.key];decide)).mono ?_;rintro e W2 ⟨rfl,b2⟩;go_wp2_with fail;exact C5 (hQ' _ _ b2 rfl (fun h=>by cases h)) (by kernel_rfl)
    case aK=>intro o ho us W hW hp Q' hQ';obtain rfl:=Option.some.inj ho;have aB:us 18=(.bool (Ff u.id 1 (X7 u.ver u.key) u.sig)):=hp 1 _ rfl (by kernel_rfl);clear hp ho;rw[C2]at hQ' ⊢;dsimp only[E4,E0,List.foldl,zv,za,zs,zp,zb]at hQ' ⊢;simp only[List.set_cons_succ,List.set_cons_zero];rw[aB]at hQ' ⊢;clear aB;go_wp2_with fail;exact C5 (hQ' _ _ (Below.refl _ _) rfl (fun h=>by cases h)) (by kernel_rfl)
    case aL=>intro o ho us W hW hp Q' hQ';obtain rfl:=Option.some.inj ho;have aC:By W 0 W.heap.size (us 15) (X7 u.ver u.key):=hp 0 _ rfl (by kernel_rfl);have aC:=Lib.hid aC;have aB:us 18=(.bool (Ff u.id 1 (X7 u.ver u.key) u.sig)):=hp 1 _ rfl (by kernel_rfl);have aD:us 19=(.bool (Ff u.id 1 (X7 u.ver u.key) u.sig)):=hp 2 _ rfl (by kernel_rfl);clear hp ho;rw[C2]at hQ' ⊢;dsimp only[E4,E0,List.foldl,zv,za,zs,zp,zb]at hQ' ⊢;simp only[List.set_cons_succ,List.set_cons_zero];rw[aB,aD]at hQ' ⊢;clear aB aD;go_wp2_with fail;exact C5 (hQ' _ _ (Below.refl _ _) rfl (fun h=>by cases h)) (by kernel_rfl)
   case aH=>
   intro us W2 b3 hg aP aT;have aM:By W2 0 W2.heap.size (us 15) (X7 u.ver u.key):=hg _ (List.mem_of_getElem? (i:=0) rfl);have aM:=Lib.hid aM;have aB:us 18=(.bool (Ff u.id 1 (X7 u.ver u.key) u.sig)):=hg _ (List.mem_of_getElem? (i:=1) rfl);have aD:us 19=(.bool (Ff u.id 1 (X7 u.ver u.key) u.sig)):=hg _ (List.mem_of_getElem? (i:=2) rfl);have aN:us 20=(.bool (Ff u.id 1 (X7 u.ver u.key) u.sig)):=hg _ (List.mem_of_getElem? (i:=3) rfl);have b4:=C0 S1 b3 S1.size;rw[C2];dsimp only[E0,List.foldl,zv,za,zs,zp,zb];simp only[List.set_cons_succ,List.set_cons_zero];rw[aB,aD,aN];clear hg aP aT aB aD aN b3 S1;have B2:=C0 B0 b4 B0.size;have z2:=Nat.le_trans z0 b4.size;have aU:=aA.below b4 aA.lt;clear b4 B0 z0 aA;refine I9 (by kernel_rfl) ?_;go_wp2_with fail;go_ret;exact ⟨by rw[HV.out];rfl,B2⟩
  ·
   have d1:decide (1≤u.ver)=true:=decide_eq_true h1;have d2:decide (u.ver≤64)=false:=decide_eq_false h2;have HV:=Lib.hid (B5b d2);have fv:=UV.loadver aA hu;rw[aE]at fv;go_enter Tryz.func27,Tryz.ntmps27;go_wp2_with fail;go_quiet (fail);rw[←aE];go_wp2_with fail;go_ret;exact ⟨by rw[HV.out];rfl,U1 B0 _⟩
 ·
  have d1:decide (1≤u.ver)=false:=decide_eq_false h1;have HV:=Lib.hid (B6a d1);have fv:=UV.loadver aA hu;rw[aE]at fv;go_enter Tryz.func27,Tryz.ntmps27;go_wp2_with fail;go_quiet (fail);rw[←aE];go_wp2_with fail;go_ret;exact ⟨by rw[HV.out];rfl,U1 B0 _⟩
structure Ev where
 A:List UInt8
 S:List UInt8
 B:List UInt8
 M:List UInt8
 F:List UInt8
 RB:List UInt8
 KB:List UInt8
 SB:List UInt8
 R:List UInt64
 K:List UInt64
 Y:N5
 X:N5
 P:PN
 Q:PN
noncomputable def Ev.c1 (e:Ev) (sd ky:List UInt8):Bool:=H8 sd==e.A&&(I4 sd==e.S&&(Z3 1 (X7 1 ky)==e.M&&(E3 [e.S,e.M]==e.R&&(D8 e.R==e.RB&&E3 [e.F,e.B,e.M]==e.K))))
noncomputable def Ev.c2 (e:Ev):Bool:=Xe (Qy A2q C5i e.A 8)==e.B
noncomputable def Ev.c3 (e:Ev):Bool:=Xe (Qy A2q C5i e.RB 8)==e.F
noncomputable def Ev.c4 (e:Ev):Bool:=D8 (Da e.R (Cj e.K (L3 e.A)))==e.SB&&(Cc (Cc (z8 64) 0 e.F) 32 e.SB==e.F++e.SB&&(Uj e.B==u5 e.Y&&(eq5 (C6x D6x e.Y) e.X&&(Ij (Ux e.B)&&(B6r D6x e.Y&&(!(Kx e.B&&P5 (u5 e.X)==z8 32)&&(eqP (A1p (if Kx e.B then Vi Ez e.X else e.X) e.Y) e.P && !B5e A2q e.P)))))))
noncomputable def Ev.c5 (e:Ev):Bool:=eqP (D7u e.P) e.Q&&(D9 (e.F++e.SB) 0==e.F&&(D9 (e.F++e.SB) 32==e.SB&&(Px e.SB&&(D8 (Ad e.SB)==e.SB&&D8 e.K==e.KB))))
noncomputable def Ev.c6 (e:Ev):Bool:=Xe (B3x A2q A1s e.SB e.Q e.KB 64)==e.F
theorem Ev.upd {e:Ev} {sd ky:List UInt8} (h1:e.c1 sd ky=true) (h2:e.c2=true) (h3:e.c3=true) (h4:e.c4=true) (h5:e.c5=true) (h6:e.c6=true) :
 mkU sd 1 ky=⟨e.B,1,ky,e.F++e.SB⟩∧signedB (mkU sd 1 ky)=true:=by
 simp only[Ev.c1,Ev.c2,Ev.c3,Ev.c4,Ev.c5,Ev.c6,Bool.and_eq_true,beq_iff_eq,Bool.not_eq_true']at h1 h2 h3 h4 h5 h6;obtain⟨a1,a2,a3,a4,a5,a6⟩:=h1;obtain⟨b1,b2,b3,b4,b5,b6,b7,b8,b9⟩:=h4;obtain⟨d1,d2,d3,d4,d5,d6⟩:=h5;have aB:U7 sd=e.B:=by unfold U7;rw[a1];exact Zh rfl (by rw[h2];exact beq_self_eq_true _)
 have r:sgR sd [e.M]=e.R:=by unfold sgR;rw[a2,a4]
 have f:sgF sd [e.M]=e.F:=by unfold sgF;rw[r,a5];exact Zh rfl (by rw[h3];exact beq_self_eq_true _)
 have k:sgK sd [e.M]=e.K:=by unfold sgK;rw[f,aB,a6]
 have s:sgS sd [e.M]=e.SB:=by unfold sgS;rw[r,k,a1,b1]
 have sg:Nt sd [e.M]=e.F++e.SB:=by unfold Nt;rw[f,s,b2]
 have Yd:mkU sd 1 ky=⟨e.B,1,ky,e.F++e.SB⟩:=by unfold mkU Gn;rw[aB,a3,sg]
 have x:Vz e.B=u5 e.X:=by rw[D6s D5g b3,Vv b4]
 have ok:Fq e.B=true:=C9y D5g b3 x b5 b6 b7;have p:Ah e.B=uP e.P:=by rw[D7o ok b3 x,B5n b8]
 have aA:Ob (Ah e.B)=false:=by rw[p,C4c B3m];exact b9
 have vf:vfH e.B (e.F++e.SB) [e.M]=e.F:=by unfold vfH vfK;rw[d2,d3,a6,d5,d6,p,D6h,B5n d1];show C8 (Z6 e.SB (uP e.Q) e.KB 64)=e.F;rw[B8b B3m D7m,A7w];exact h6
 refine ⟨Yd,?_⟩;rw[Yd,A1h rfl rfl];show Ff e.B 1 (X7 1 ky) (e.F++e.SB)=true;unfold Ff;rw[a3];unfold Cy;rw[ok,aA,d3,d4,vf,d2];simp
section
set_option maxRecDepth 100000
set_option maxHeartbeats 0
def eu9:Ev:=⟨[200,12,38,94,204,130,221,140,238,110,86,206,68,228,93,175,215,160,197,117,13,249,20,178,83,161,251,122,138,246,109,91],[153,118,54,7,240,168,93,11,212,54,105,25,74,58,64,87,122,82,138,243,149,244,241,126,6,241,222,252,198,222,178,165],[206,204,21,7,220,29,221,114,149,149,28,41,8,136,240,149,173,185,4,77,27,115,214,150,230,223,6,93,104,59,212,252],[119,105,116,97,110,1,0,0,0,0,0,0,0,40,0,0,0,0,0,0,0,1,2,0,0,0,0,0,0,0,0,0,0,0,0,0,0,0,0,0,0,0,0,0,0,0,0,0,0,0,0,0,0,0],[64,101,153,252,184,252,127,12,178,104,81,213,210,93,225,110,129,25,57,11,233,232,78,111,238,98,161,158,158,160,9,221],[167,252,29,139,182,217,45,132,98,137,196,27,99,180,115,68,110,202,10,208,71,8,74,92,133,143,5,193,177,247,82,15],[214,238,226,20,71,240,237,40,73,55,30,53,211,205,43,118,196,138,196,95,192,113,100,57,43,128,41,30,173,73,71,15],[32,243,253,161,234,217,59,155,58,20,160,32,162,85,10,218,5,180,99,46,43,65,14,16,108,211,123,246,150,20,197,13],[9524508164999740583,4932484354661452130,6650136904292026990,1104217201478832005],[2949277519081303766,8515125827487020873,4135555428887333572,1100929641799581739],⟨1440205732433102,287125319888475,1146682017825312,2237830084005286,2196015545700461⟩,⟨626536395482458,295576395633887,1336003373205109,698547845527882,1208567494868599⟩,⟨⟨1625263418202771,1956223418051360,915796440480138,1553251968157365,1043232318816648⟩,⟨1440205732433102,287125319888475,1146682017825312,2237830084005286,2196015545700461⟩,⟨1,0,0,0,0⟩,⟨243950350799911,1923543989867015,1055101283805844,742455266160301,82920972177670⟩⟩,⟨⟨626536395482458,295576395633887,1336003373205109,698547845527882,1208567494868599⟩,⟨1440205732433102,287125319888475,1146682017825312,2237830084005286,2196015545700461⟩,⟨1,0,0,0,0⟩,⟨2007849462885318,328255823818232,1196698529879403,1509344547524946,2168878841507577⟩⟩⟩
theorem E5w:mkU (h1 1) 1 (h1 2)=⟨eu9.B,1,h1 2,eu9.F++eu9.SB⟩∧signedB (mkU (h1 1) 1 (h1 2))=true:=Ev.upd (by decide +kernel) (by decide +kernel) (by decide +kernel) (by decide +kernel) (by decide +kernel) (by decide +kernel)
end
end Go.Proofs.YtlegpkdighoflaaGreat
