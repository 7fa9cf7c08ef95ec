/- A part of the proof of ClientForks. -/
import Derived.Test.YtdfpoofbgjilgaaGreatVbe
import Derived.Test.YtdfpoofbgjilgaaGreatVbf
set_option linter.unusedVariables false
set_option linter.unusedSimpArgs false
set_option maxRecDepth 100000
set_option maxHeartbeats 40000000
namespace Go.Proofs.YtdfpoofbgjilgaaGreat
open Go Go.RowKit Sh
theorem A9q {p:Pt} {P:Nat→Bool} (ok:p.Ok 0 P) (ht:p.Tight):Mg p.bytes=.ok p:=by
 have h:=B3y 256 [] p [] rfl (ok.congr fun i hi=>by simp at hi) ht;rw[List.append_nil]at h;unfold Mg;rw[h]
def E2a (ks:List (List UInt8)):Option (List UInt8):=if ks.length=0 then none else some (Ah ks)
theorem B6u (root id:List UInt8) (hr:root.length=32) (hid:id.length=32) (kv pv:Value) (ks:List (List UInt8)) (l:List UInt8) (p:Pt) (hp:Mg l=.ok p) (hw:p.Wf) (hd:p.Dp 0) (hroot:p.root=root) (hget:p.get id 0=Uo (E2a ks)) (hkn:ks.length≤1000000) (w:World) (hk:Hs w 0 w.heap.size kv ks) (hb:By w 0 w.heap.size pv l) :
 Calls Tryz.prog 67 #[A8 root,A8 id,.agg #[kv,pv]] w fun e w'=>e=.returned (.int .i64 0)∧Below w.heap.size w w':=by
 subst hroot;have HK:=Lib.hid hk;have HB:=Lib.hid hb;have HP:=Lib.hid hp;have HG:=Lib.hid hget;obtain⟨A,c,rfl,bS,bT⟩:=hk.form;obtain⟨A',c',rfl,_⟩:=hb.open_;obtain⟨n,hn⟩:∃n,n=ks.length:=⟨_,rfl⟩;obtain⟨m,hm⟩:∃n,n=l.length:=⟨_,rfl⟩;rw[←hn]at HK hkn ⊢;rw[←hm]at HB ⊢;have HN:=Lib.hid hn;clear hk hb hp hget hn hm;obtain⟨w0,bF⟩:∃x,x=((w.alloc (Obj.cells (c8 p.root).toArray 35)).alloc (Obj.cells (c8 id).toArray 35)).alloc (Obj.cells #[.slice A n c,.slice A' m c'] 86):=⟨_,rfl⟩;have hL:w0=Q6 w [(35,c8 p.root),(35,c8 id),(86,[.slice A n c,.slice A' m c'])]:=bF;have B0:Below w.heap.size w w0:=by rw[hL];exact H6 _ _
 have k3:Bk w0 w.heap.size 35 (c8 p.root):=by rw[hL];exact E0 _ w 0 _ _ rfl
 have k4:Bk w0 (w.heap.size+1) 35 (c8 id):=by rw[hL];exact E0 _ w 1 _ _ rfl
 have k5:Bk w0 (w.heap.size+2) 86 [.slice A n c,.slice A' m c']:=by rw[hL];exact E0 _ w 2 _ _ rfl
 have z0:w0.heap.size=w.heap.size+3:=by rw[hL,O7];rfl
 clear hL;have c1:=k5.at_ (i:=1) (u:=.slice A' m c') rfl;rw[bF]at c1;go_enter Tryz.func67,Tryz.ntmps67;go_wp2_with fail;rw[←bF];clear c1 bF;refine (C2c _ l w0 ((HB.out.below B0).more B0.size)).mono ?_;rintro e w1 ⟨q,n1,rfl,aO,b1⟩;rw[HP.out]at aO;obtain⟨rfl,rfl⟩:q=p∧n1=0:=aO;have B1:=C1 B0 b1 B0.size;have aP:=k3.below b1 k3.lt;have aQ:=k4.below b1 k4.lt;have aR:=k5.below b1 k5.lt;clear k3 k4 k5;go_wp2_with fail;obtain⟨w2,aJ⟩:∃x,x=w1.alloc (Obj.cells #[q.val] 122):=⟨_,rfl⟩;rw[←aJ];have kp:Bk w2 w1.heap.size 122 [q.val]:=by rw[aJ];exact Bk.new w1 _ [_]
 have aF:Bk w2 w.heap.size 35 (c8 q.root):=by rw[aJ];exact aP.alloc _
 have aS:Bk w2 (w.heap.size+1) 35 (c8 id):=by rw[aJ];exact aQ.alloc _
 have aT:Bk w2 (w.heap.size+2) 86 [.slice A n c,.slice A' m c']:=by rw[aJ];exact aR.alloc _
 have B2:Below w.heap.size w w2:=by rw[aJ];exact B1.alloc B1.size _
 have z2:w.heap.size+3≤w1.heap.size:=by have:=b1.size;omega
 generalize w1.heap.size=gp at *;clear aJ B1 b1 aP aQ aR B0;refine E3 (fun W=>Bk W gp 122 [q.val]∧Bk W w.heap.size 35 (c8 q.root)) (by kernel_rfl) ?_;refine C5 (A:=?bU) [0,2] (by kernel_rfl) (by kernel_rfl) rfl (by kernel_rfl) (by kernel_rfl) ⟨kp.drew,aF.drew⟩ (h:=fun W hW=>?bK) (hr:=?bW);case bK=>
  have f1:W.cell? ⟨gp,0,none⟩=some q.val:=hW.1.at_ (i:=0) rfl;have f2:=Bk.row8 (n:=32) hW.2 hr;simp only[pick,List.getElem?_cons_zero,List.getElem?_cons_succ];repeat (go_big_quiet_step (fail))
  refine wpQuiet_nil ?_;rfl
 have S0:Below w2.heap.size w2 w2.drew:=(Below.refl _ _).drew;have aK:=aS.drew;have aL:=aT.drew;have B3:=C1 B2 S0 B2.size;refine C3 1 (by kernel_rfl) (by rfl) (by rfl) (fun Q' hQ'=>?_);dsimp only[E5];have bI:=Lib.hid hQ';clear hQ';go_wp2_with fail;refine (B4o q hw w2.drew).mono ?_;rintro e w4 ⟨rfl,b4⟩;have aA:=aF.drew.below b4 aF.drew.lt;have aG:=kp.drew.below b4 kp.drew.lt;have aU:=aK.below b4 aK.lt;have aM:=aL.below b4 aL.lt;have B4:=C1 B3 b4 B3.size;go_wp2_with fail;refine bI.out _ _ ⟨aG,aA⟩ ?_;clear bI;refine C3 3 (by kernel_rfl) (by rfl) (by rfl) (fun Q' hQ'=>?_);dsimp only[E5];go_wp2_with fail;refine hQ' _ _ ⟨aG,aA⟩ ?_;clear hQ';refine F0 (by kernel_rfl) ?_;have f1:w4.cell? ⟨gp,0,none⟩=some q.val:=aG.at_ (i:=0) rfl;have f2:=Bk.row8 (n:=32) aU hid;go_wp2_with fail;refine (C8l id hid q hw hd w4).mono ?_;rintro e w5 ⟨rfl,b5⟩;have bL:=aA.below b5 aA.lt;have aH:=aM.below b5 aM.lt;have B5:=C1 B4 b5 B4.size;have d0:=aH.at_ (i:=0) (u:=.slice A n c) rfl;rw[HG.out];clear f1 f2 aA aU aM aG aF aS aT kp aK aL;obtain⟨W,hW⟩:∃x,x=w5.alloc (Obj.cells (c8 (z8 32)).toArray 35):=⟨_,rfl⟩;have k9:Bk W w5.heap.size 35 (c8 (z8 32)):=by rw[hW];exact Bk.new w5 _ _
 have aV:Bk W (w.heap.size+2) 86 [.slice A n c,.slice A' m c']:=by rw[hW];exact aH.alloc _
 have BW:Below w.heap.size w W:=by rw[hW];exact B5.alloc B5.size _
 have z5:w.heap.size≤w5.heap.size:=B5.size;have zW:w5.heap.size<W.heap.size:=by rw[hW];simp
 have aI:=Bk.can8 (n:=32) k9 (by simp);by_cases h0:n=0
 ·subst h0;have ht:E2a ks=none:=if_pos HN.out.symm;rw[ht];dsimp only[C9d,Uo];obtain⟨V,hV⟩:∃x,x=C4 W ⟨w5.heap.size,0,none⟩ (c8 (z8 32)):=⟨_,rfl⟩;have bG:Bk V w5.heap.size 35 (c8 (z8 32)):=by rw[hV];exact Bk.put8 (n:=32) k9 (by simp) (by simp)
  have aN:Bk V (w.heap.size+2) 86 [.slice A 0 c,.slice A' m c']:=by rw[hV];exact aV.putFar (by have:=aH.lt;simp;omega) _
  have BV:Below w.heap.size w V:=by rw[hV];exact C0 BW z5 _
  have e0:=aN.drew.at_ (i:=0) (u:=.slice A 0 c) rfl;have bX:=aN.at_ (i:=0) (u:=.slice A 0 c) rfl;rw[hW]at aI;go_wp2_with fail;rw[←hW,←hV];clear aI hW hV;go_quiet (fail);go_wp2_with fail;go_ret;exact ⟨rfl,N6 BV _⟩
 ·have ht:E2a ks=some (Ah ks):=if_neg (by rw[←HN.out];exact h0);rw[ht];dsimp only[C9d,Uo];have bJ:=Dn ks;have bM:decide (0<n)=true:=decide_eq_true (by omega);obtain⟨V,hV⟩:∃x,x=C4 W ⟨w5.heap.size,0,none⟩ (c8 (Ah ks)):=⟨_,rfl⟩;have bG:Bk V w5.heap.size 35 (c8 (Ah ks)):=by rw[hV];exact Bk.put8 (n:=32) k9 (by simp) bJ
  have aN:Bk V (w.heap.size+2) 86 [.slice A n c,.slice A' m c']:=by rw[hV];exact aV.putFar (by have:=aH.lt;simp;omega) _
  have BV:Below w.heap.size w V:=by rw[hV];exact C0 BW z5 _
  rw[hW]at aI;go_wp2_with fail;rw[←hW,←hV];clear aI hW hV;have bN:=Lib.hid ((HK.out.below BV).more BV.size);have S1:Below V.heap.size V V.drew:=(Below.refl _ _).drew;refine E3 (fun W=>Bk W w5.heap.size 35 (c8 (Ah ks))∧Bk W (w.heap.size+2) 86 [.slice A n c,.slice A' m c']) (by kernel_rfl) ?_;refine C5 (A:=?bY) [0,1,2,3,4,5,6,7,8,9,10,11] (by kernel_rfl) (by kernel_rfl) rfl (by kernel_rfl) (by kernel_rfl) ⟨bG.drew,aN.drew⟩ (h:=fun W hW=>?bO) (hr:=?bZ);case bO=>
   have f1:=hW.2.at_ (i:=0) (u:=.slice A n c) rfl;have f2:=Bk.row8 (n:=32) hW.1 bJ;simp only[pick,List.getElem?_cons_zero,List.getElem?_cons_succ];repeat (go_big_quiet_step (fail))
   refine wpQuiet_nil ?_;rfl
  refine B6d [zv 12 48 (A8 (Ah ks)),zv 13 49 (.bool false),zv 14 50 (.bool false),zv 15 51 (.bool false),zv 16 35 (.bool false)] (by kernel_rfl) ?bP (fun W hW=>⟨bG.drew.below hW bG.drew.lt,aN.drew.below hW aN.drew.lt⟩) ?aW ?aX ?aY;case aW=>exact (List.forall_mem_cons.2 ⟨P8 _ _ _,(List.forall_mem_cons.2 ⟨P8 _ _ _,(List.forall_mem_cons.2 ⟨P8 _ _ _,(List.forall_mem_cons.2 ⟨P8 _ _ _,(List.forall_mem_cons.2 ⟨P8 _ _ _,(fun _ h=>by cases h)⟩)⟩)⟩)⟩)⟩)
  case bP=>exact (List.forall_mem_cons.2 ⟨(fun o ho us=>by obtain rfl:=Option.some.inj ho;kernel_rfl),(List.forall_mem_cons.2 ⟨(fun o ho us=>by obtain rfl:=Option.some.inj ho;kernel_rfl),(List.forall_mem_cons.2 ⟨(fun o ho us=>by obtain rfl:=Option.some.inj ho;kernel_rfl),(List.forall_mem_cons.2 ⟨(fun o ho us=>by obtain rfl:=Option.some.inj ho;kernel_rfl),(List.forall_mem_cons.2 ⟨(fun o ho us=>by obtain rfl:=Option.some.inj ho;kernel_rfl),(fun _ h=>by cases h)⟩)⟩)⟩)⟩)⟩)
  case aX=>
   refine (List.forall_mem_cons.2 ⟨?aZ,(List.forall_mem_cons.2 ⟨?bA,(List.forall_mem_cons.2 ⟨?bB,(List.forall_mem_cons.2 ⟨?bC,(List.forall_mem_cons.2 ⟨?bD,(fun _ h=>by cases h)⟩)⟩)⟩)⟩)⟩);case aZ=>
    intro o ho us W hW hp Q' hQ';obtain rfl:=Option.some.inj ho;clear hp ho;rw[C2]at hQ' ⊢;dsimp only[E5,E6,List.foldl,zv]at hQ' ⊢;simp only[List.set_cons_succ,List.set_cons_zero];have bQ:=Lib.hid ((bN.out.below (C1 S1 hW S1.size)).more (C1 S1 hW S1.size).size);go_wp2_with fail;refine (Rl _ ks W bQ.out (by rw[←HN.out];exact hkn)).mono ?_;rintro e W2 ⟨rfl,b2⟩;go_wp2_with fail;exact C9 (hQ' _ _ b2 rfl (fun h=>by cases h)) (by kernel_rfl)
   case bA=>intro o ho us W hW hp Q' hQ';obtain rfl:=Option.some.inj ho;have aB:us 12=A8 (Ah ks):=hp 0 _ rfl (by kernel_rfl);clear hp ho;rw[C2]at hQ' ⊢;dsimp only[E5,E6,List.foldl,zv]at hQ' ⊢;simp only[List.set_cons_succ,List.set_cons_zero];rw[aB]at hQ' ⊢;clear aB;go_wp2_with fail;exact C9 (hQ' _ _ (Below.refl _ _) rfl (fun h=>by cases h)) (by kernel_rfl)
   case bB=>intro o ho us W hW hp Q' hQ';obtain rfl:=Option.some.inj ho;have aC:us 13=.bool false:=hp 1 _ rfl (by kernel_rfl);clear hp ho;rw[C2]at hQ' ⊢;dsimp only[E5,E6,List.foldl,zv]at hQ' ⊢;simp only[List.set_cons_succ,List.set_cons_zero];rw[aC]at hQ' ⊢;clear aC;go_wp2_with fail;exact C9 (hQ' _ _ (Below.refl _ _) rfl (fun h=>by cases h)) (by kernel_rfl)
   case bC=>intro o ho us W hW hp Q' hQ';obtain rfl:=Option.some.inj ho;have aD:us 14=.bool false:=hp 2 _ rfl (by kernel_rfl);clear hp ho;rw[C2]at hQ' ⊢;dsimp only[E5,E6,List.foldl,zv]at hQ' ⊢;simp only[List.set_cons_succ,List.set_cons_zero];rw[aD]at hQ' ⊢;clear aD;go_wp2_with fail;exact C9 (hQ' _ _ (Below.refl _ _) rfl (fun h=>by cases h)) (by kernel_rfl)
   case bD=>intro o ho us W hW hp Q' hQ';obtain rfl:=Option.some.inj ho;have aE:us 15=.bool false:=hp 3 _ rfl (by kernel_rfl);clear hp ho;rw[C2]at hQ' ⊢;dsimp only[E5,E6,List.foldl,zv]at hQ' ⊢;simp only[List.set_cons_succ,List.set_cons_zero];rw[aE]at hQ' ⊢;clear aE;go_wp2_with fail;exact C9 (hQ' _ _ (Below.refl _ _) rfl (fun h=>by cases h)) (by kernel_rfl)
  case aY=>
  intro us W2 b3 hg bH bR;have aB:us 12=A8 (Ah ks):=hg _ (List.mem_of_getElem? (i:=0) rfl);have aC:us 13=.bool false:=hg _ (List.mem_of_getElem? (i:=1) rfl);have aD:us 14=.bool false:=hg _ (List.mem_of_getElem? (i:=2) rfl);have aE:us 15=.bool false:=hg _ (List.mem_of_getElem? (i:=3) rfl);have bE:us 16=.bool false:=hg _ (List.mem_of_getElem? (i:=4) rfl);have b4:=C1 S1 b3 S1.size;rw[C2];dsimp only[E6,List.foldl,zv];simp only[List.set_cons_succ,List.set_cons_zero];rw[aB,aC,aD,aE,bE];clear hg bH bR aB aC aD aE bE b3 S1;refine F0 (by kernel_rfl) ?_;go_wp2_with fail;go_ret;exact ⟨rfl,C1 BV b4 BV.size⟩
section
structure IsTree (t : Tr) (L : List En) : Prop where
 ok:Okt t
 prs:t.pairs=pairsE L
theorem IsTree.uniq {t s:Tr} {L:List En} (h:IsTree t L) (h':IsTree s L):t=s:=Ok.ext_mem h.ok h'.ok fun x=>by rw[h.prs,h'.prs]
theorem Cw.okE {w:World} {dv:Value} {e:Nat} {L:List En} {N:Nat} (h:Cw w dv e L N):OkE L:=by
 obtain⟨ap,mv,m,t,h1,h2,h3,h4,h5,h6,h7⟩:=h;exact h4
theorem Cw.tree {w:World} {dv:Value} {e:Nat} {L:List En} {N:Nat} (h:Cw w dv e L N):∃t,IsTree t L:=by
 obtain⟨ap,mv,m,t,h1,h2,h3,h4,h5,h6,h7⟩:=h;exact ⟨t,h5,h6⟩
theorem MVN.form2 {w:World} {mv:Value} {m:List UInt8→Option Value} {N:Nat} (h:MVN w mv m N):∃b,mv=.map b:=by
 rcases h.form with h | ⟨b,h⟩
 ·exact ⟨_,h⟩
 ·exact ⟨_,h⟩
theorem Cw.form {w:World} {dv:Value} {e:Nat} {L:List En} {N:Nat} (h:Cw w dv e L N):∃ap b,dv=.agg #[.int .i64 (e:Int),.pointer ap,.int .i64 0,.map b]:=by
 obtain⟨ap,mv,m,t,h1,h2,_⟩:=h;obtain⟨b,rfl⟩:=h2.form2;exact ⟨ap,b,h1⟩
section
variable {w : World} {dv : Value} {e N : Nat} {L : List En} {t : Tr}
theorem C9f (h:Cw w dv e L N) (ht:IsTree t L):Calls Tryz.prog 17 #[dv] w fun x w'=>x=.returned (A8 t.root)∧Below w.heap.size w w':=by
 obtain⟨ap,mv,m,s,rfl,h2,h3,h4,h5,h6,h7⟩:=h;obtain rfl:=ht.uniq ⟨h5,h6⟩;exact A4v t _ _ _ _ w h7
theorem B7v (h:Cw w dv e L N) (ht:IsTree t L) (id:List UInt8) (hid:id.length=32) (hks:(lookE L id).length≤1000000) (hL:L.length≤1000000):Calls Tryz.prog 24 #[dv,A8 id] w fun x w'=>∃u v,x=.returned (.agg #[u,v])∧Ad w' w.heap.size u (lookE L id)∧I5 w' w.heap.size v (t.cut [id] 0).bytes∧Below w.heap.size w w':=by
 obtain⟨ap,mv,m,s,rfl,h2,h3,h4,h5,h6,h7⟩:=h;obtain rfl:=ht.uniq ⟨h5,h6⟩;have hl:t.len≤1000000:=by rw[Tr.len_pairs,h6,Cr];exact hL
 refine A9p _ ap mv h2.form m (lookE L) id hid (by omega) t P0 h5 (by omega) (E1q h5 _ _) ?_ w h2.mv h3 h7;have:=C4n h5 (by omega) [id] 0;have h8:t.len*(65+2*(257-0))≤1000000*579:=Nat.mul_le_mul hl (by omega);omega
theorem C4c (ht:IsTree t L) (ok:OkE L) (id:List UInt8) (hid:id.length=32) (hks:(lookE L id).length≤1000000) (kv pv:Value) (hk:Hs w 0 w.heap.size kv (lookE L id)) (hb:By w 0 w.heap.size pv (t.cut [id] 0).bytes) :
 Calls Tryz.prog 67 #[A8 t.root,A8 id,.agg #[kv,pv]] w fun x w'=>x=.returned (.int .i64 0)∧Below w.heap.size w w':=by
 have hv:=Zh t [id] 0;have aA:=hv.ok ht.ok;refine B6u t.root id t.root_length hid kv pv (lookE L id) _ (t.cut [id] 0) (A9q aA (hv.tight ht.ok)) aA.wf aA.dp hv.root ?_ hks w hk hb;rw[A0n hv (Vm t [id] 0 (by simp)),B2g ht.ok ok ht.prs];rfl
end
end
section
noncomputable def u1:UV:=mkU (h1 1) 1 (h1 2)
theorem F1y:u1.Ok:=E2g _ _ (X7 2)
theorem D5b:Ju (lookE [] u1.id) u1=true:=by
 unfold Ju;have h:Z5 u1=true:=E6b.2;rw[h];rfl
theorem E2m:u1.key=h1 2:=by unfold u1 mkU;rfl
theorem B0y:applyE [u1] []=[(u1.id,[h1 2])]:=by
 have h:applyE [u1] []=Ta [] u1:=by unfold applyE;rw[List.foldl_cons,List.foldl_nil]
 rw[h];unfold Ta;rw[D5b,if_pos rfl,E2m];unfold Ea;simp[lookE]
theorem B6t:lookE [(u1.id,[h1 2])] u1.id=[h1 2]:=by unfold lookE;rw[if_pos rfl]
theorem F0h:u1.id=eu9.B:=by
 have h:u1=⟨eu9.B,1,h1 2,eu9.F++eu9.SB⟩:=E6b.1;rw[h]
theorem C2v {t:Tr} {k v:List UInt8} (ht:Okt t) (h:t.pairs=[(k,v)]):t=.lf k v:=by
 cases t with
 | e=>simp[Tr.pairs]at h
 | lf a b=>
  simp only[Tr.pairs,List.cons.injEq,Prod.mk.injEq,and_true]at h;rw[h.1,h.2]
 | nd l r=>
  have h2:(Tr.nd l r).pairs.length=1:=by rw[h];rfl
  rw[←Tr.len_pairs]at h2;have h3:2≤l.len+r.len:=ht.2.1;have e:(Tr.nd l r).len=l.len+r.len:=rfl;omega
theorem E0d:mkU (h1 1) 1 (h1 2)=u1:=by unfold u1;rfl
attribute [irreducible] u1
theorem E1y (w:World) {N:Nat} (hN:w.heap.size=N) {u:UV} (hu:u.Ok):US (w.alloc (Obj.cells (Cj u).toArray 48)) (w.alloc (Obj.cells (Cj u).toArray 48)).heap.size (.slice (some ⟨N,0,none⟩) 1 1) [u]:=by
 subst hN;exact .inr ⟨w.heap.size,[],1,rfl,⟨fun x hx=>(by simp at hx;subst hx;exact hu),by simpa using Bk.new w 48 (Cj u)⟩,by simp⟩
theorem C5p (w:World):(Instr.build 56 #[]).run Tryz.prog w=.ok (.agg #[.int .i64 0,.pointer none,.int .i64 0,.map none]) w:=by kernel_rfl
attribute [local go_sem ↓ high] Hl Vd
end
end Go.Proofs.YtdfpoofbgjilgaaGreat
