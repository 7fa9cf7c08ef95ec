/- A part of the proof of DirBuilds. -/
import Derived.Test.YtlegpkdighoflaaGreatSbl
set_option linter.unusedVariables false
set_option linter.unusedSimpArgs false
set_option maxRecDepth 100000
set_option maxHeartbeats 40000000
namespace Go.Proofs.YtlegpkdighoflaaGreat
open Go Go.RowKit Sh
def D8i (ks:List (List UInt8)):Option (List UInt8):=if ks.length=0 then none else some (Ay ks)
theorem B4e (root id:List UInt8) (hr:root.length=32) (hid:id.length=32) (kv pv:Value) (ks:List (List UInt8)) (l:List UInt8) (p:Pt) (hp:Pz l=.ok p) (hw:p.Wf) (hd:p.Dp 0) (hroot:p.root=root) (hget:p.get id 0=Uf (D8i ks)) (hkn:ks.length≤1000000) (w:World) (hk:Hs w 0 w.heap.size kv ks) (hb:By w 0 w.heap.size pv l) :
 Calls Tryz.prog 16 #[A8 root,A8 id,.agg #[kv,pv]] w fun e w'=>e=.returned (.int .i64 0)∧Below w.heap.size w w':=by
 subst hroot;have HK:=Lib.hid hk;have HB:=Lib.hid hb;have HP:=Lib.hid hp;have HG:=Lib.hid hget;obtain⟨A,c,rfl,bT,bU⟩:=hk.form;obtain⟨A',c',rfl,_⟩:=hb.open_;obtain⟨n,hn⟩:∃n,n=ks.length:=⟨_,rfl⟩;obtain⟨m,hm⟩:∃n,n=l.length:=⟨_,rfl⟩;rw[←hn]at HK hkn ⊢;rw[←hm]at HB ⊢;have HN:=Lib.hid hn;clear hk hb hp hget hn hm;obtain⟨w0,bG⟩:∃x,x=((w.alloc (Obj.cells (c8 p.root).toArray 23)).alloc (Obj.cells (c8 id).toArray 23)).alloc (Obj.cells #[.slice A n c,.slice A' m c'] 47):=⟨_,rfl⟩;have hL:w0=Q5 w [(23,c8 p.root),(23,c8 id),(47,[.slice A n c,.slice A' m c'])]:=bG;have B0:Below w.heap.size w w0:=by rw[hL];exact J9 _ _
 have k3:Bk w0 w.heap.size 23 (c8 p.root):=by rw[hL];exact F9 _ w 0 _ _ rfl
 have k4:Bk w0 (w.heap.size+1) 23 (c8 id):=by rw[hL];exact F9 _ w 1 _ _ rfl
 have k5:Bk w0 (w.heap.size+2) 47 [.slice A n c,.slice A' m c']:=by rw[hL];exact F9 _ w 2 _ _ rfl
 have z0:w0.heap.size=w.heap.size+3:=by rw[hL,H9];rfl
 clear hL;have c1:=k5.at_ (i:=1) (u:=.slice A' m c') rfl;rw[bG]at c1;go_enter Tryz.func16,Tryz.ntmps16;go_wp2_with fail;rw[←bG];clear c1 bG;refine (C1h _ l w0 ((HB.out.below B0).more B0.size)).mono ?_;rintro e w1 ⟨q,n1,rfl,aO,b1⟩;rw[HP.out]at aO;obtain⟨rfl,rfl⟩:q=p∧n1=0:=aO;have B1:=C0 B0 b1 B0.size;have aP:=k3.below b1 k3.lt;have aQ:=k4.below b1 k4.lt;have aR:=k5.below b1 k5.lt;clear k3 k4 k5;go_wp2_with fail;obtain⟨w2,aJ⟩:∃x,x=w1.alloc (Obj.cells #[q.val] 91):=⟨_,rfl⟩;rw[←aJ];have kp:Bk w2 w1.heap.size 91 [q.val]:=by rw[aJ];exact Bk.new w1 _ [_]
 have aF:Bk w2 w.heap.size 23 (c8 q.root):=by rw[aJ];exact aP.alloc _
 have aS:Bk w2 (w.heap.size+1) 23 (c8 id):=by rw[aJ];exact aQ.alloc _
 have aT:Bk w2 (w.heap.size+2) 47 [.slice A n c,.slice A' m c']:=by rw[aJ];exact aR.alloc _
 have B2:Below w.heap.size w w2:=by rw[aJ];exact B1.alloc B1.size _
 have z2:w.heap.size+3≤w1.heap.size:=by have:=b1.size;omega
 generalize w1.heap.size=gp at *;clear aJ B1 b1 aP aQ aR B0;refine F2 (fun W=>Bk W gp 91 [q.val]∧Bk W w.heap.size 23 (c8 q.root)) (by kernel_rfl) ?_;refine C6 (A:=?bV) [0,2] (by kernel_rfl) (by kernel_rfl) rfl (by kernel_rfl) (by kernel_rfl) ⟨kp.drew,aF.drew⟩ (h:=fun W hW=>?bL) (hr:=?bX);case bL=>
  have f1:W.cell? ⟨gp,0,none⟩=some q.val:=hW.1.at_ (i:=0) rfl;have f2:=Bk.row8 (n:=32) hW.2 hr;simp only[pick,List.getElem?_cons_zero,List.getElem?_cons_succ];repeat (go_big_quiet_step (fail))
  refine wpQuiet_nil ?_;rfl
 have S0:Below w2.heap.size w2 w2.drew:=(Below.refl _ _).drew;have aK:=aS.drew;have aL:=aT.drew;have B3:=C0 B2 S0 B2.size;refine C4 1 (by kernel_rfl) (by rfl) (by rfl) (fun Q' hQ'=>?_);dsimp only[E4];have bJ:=Lib.hid hQ';clear hQ';go_wp2_with fail;refine (B6e q hw w2.drew).mono ?_;rintro e w4 ⟨rfl,b4⟩;have aA:=aF.drew.below b4 aF.drew.lt;have aG:=kp.drew.below b4 kp.drew.lt;have aU:=aK.below b4 aK.lt;have aM:=aL.below b4 aL.lt;have B4:=C0 B3 b4 B3.size;go_wp2_with fail;refine bJ.out _ _ ⟨aG,aA⟩ ?_;clear bJ;refine C4 3 (by kernel_rfl) (by rfl) (by rfl) (fun Q' hQ'=>?_);dsimp only[E4];go_wp2_with fail;refine hQ' _ _ ⟨aG,aA⟩ ?_;clear hQ';refine I9 (by kernel_rfl) ?_;have f1:w4.cell? ⟨gp,0,none⟩=some q.val:=aG.at_ (i:=0) rfl;have f2:=Bk.row8 (n:=32) aU hid;go_wp2_with fail;refine (C5x id hid q hw hd w4).mono ?_;rintro e w5 ⟨rfl,b5⟩;have bM:=aA.below b5 aA.lt;have aH:=aM.below b5 aM.lt;have B5:=C0 B4 b5 B4.size;have d0:=aH.at_ (i:=0) (u:=.slice A n c) rfl;rw[HG.out];clear f1 f2 aA aU aM aG aF aS aT kp aK aL;obtain⟨W,hW⟩:∃x,x=w5.alloc (Obj.cells (c8 (z8 32)).toArray 23):=⟨_,rfl⟩;have k9:Bk W w5.heap.size 23 (c8 (z8 32)):=by rw[hW];exact Bk.new w5 _ _
 have aV:Bk W (w.heap.size+2) 47 [.slice A n c,.slice A' m c']:=by rw[hW];exact aH.alloc _
 have BW:Below w.heap.size w W:=by rw[hW];exact B5.alloc B5.size _
 have z5:w.heap.size≤w5.heap.size:=B5.size;have zW:w5.heap.size<W.heap.size:=by rw[hW];simp
 have aI:=Bk.can8 (n:=32) k9 (by simp);by_cases h0:n=0
 ·subst h0;have ht:D8i ks=none:=if_pos HN.out.symm;rw[ht];dsimp only[C8d,Uf];obtain⟨V,hV⟩:∃x,x=C9 W ⟨w5.heap.size,0,none⟩ (c8 (z8 32)):=⟨_,rfl⟩;have bH:Bk V w5.heap.size 23 (c8 (z8 32)):=by rw[hV];exact Bk.put8 (n:=32) k9 (by simp) (by simp)
  have aN:Bk V (w.heap.size+2) 47 [.slice A 0 c,.slice A' m c']:=by rw[hV];exact aV.putFar (by have:=aH.lt;simp;omega) _
  have BV:Below w.heap.size w V:=by rw[hV];exact C1 BW z5 _
  have e0:=aN.drew.at_ (i:=0) (u:=.slice A 0 c) rfl;have bY:=aN.at_ (i:=0) (u:=.slice A 0 c) rfl;rw[hW]at aI;go_wp2_with fail;rw[←hW,←hV];clear aI hW hV;go_quiet (fail);go_wp2_with fail;go_ret;exact ⟨rfl,U1 BV _⟩
 ·have ht:D8i ks=some (Ay ks):=if_neg (by rw[←HN.out];exact h0);rw[ht];dsimp only[C8d,Uf];have bK:=Co ks;have bN:decide (0<n)=true:=decide_eq_true (by omega);obtain⟨V,hV⟩:∃x,x=C9 W ⟨w5.heap.size,0,none⟩ (c8 (Ay ks)):=⟨_,rfl⟩;have bH:Bk V w5.heap.size 23 (c8 (Ay ks)):=by rw[hV];exact Bk.put8 (n:=32) k9 (by simp) bK
  have aN:Bk V (w.heap.size+2) 47 [.slice A n c,.slice A' m c']:=by rw[hV];exact aV.putFar (by have:=aH.lt;simp;omega) _
  have BV:Below w.heap.size w V:=by rw[hV];exact C1 BW z5 _
  rw[hW]at aI;go_wp2_with fail;rw[←hW,←hV];clear aI hW hV;have bO:=Lib.hid ((HK.out.below BV).more BV.size);have S1:Below V.heap.size V V.drew:=(Below.refl _ _).drew;refine F2 (fun W=>Bk W w5.heap.size 23 (c8 (Ay ks))∧Bk W (w.heap.size+2) 47 [.slice A n c,.slice A' m c']) (by kernel_rfl) ?_;refine C6 (A:=?bZ) [0,1,2,3,4,5,6,7,8,9,10,11] (by kernel_rfl) (by kernel_rfl) rfl (by kernel_rfl) (by kernel_rfl) ⟨bH.drew,aN.drew⟩ (h:=fun W hW=>?bP) (hr:=?cB);case bP=>
   have f1:=hW.2.at_ (i:=0) (u:=.slice A n c) rfl;have f2:=Bk.row8 (n:=32) hW.1 bK;simp only[pick,List.getElem?_cons_zero,List.getElem?_cons_succ];repeat (go_big_quiet_step (fail))
   refine wpQuiet_nil ?_;rfl
  refine Zd [zv 12 48 (A8 (Ay ks)),zv 13 49 (.bool false),zv 14 50 (.bool false),zv 15 51 (.bool false),zv 16 35 (.bool false)] (by kernel_rfl) ?bQ (fun W hW=>⟨bH.drew.below hW bH.drew.lt,aN.drew.below hW aN.drew.lt⟩) ?aW ?aX ?aY;case aW=>exact (List.forall_mem_cons.2 ⟨H7 _ _ _,(List.forall_mem_cons.2 ⟨H7 _ _ _,(List.forall_mem_cons.2 ⟨H7 _ _ _,(List.forall_mem_cons.2 ⟨H7 _ _ _,(List.forall_mem_cons.2 ⟨H7 _ _ _,(fun _ h=>by cases h)⟩)⟩)⟩)⟩)⟩)
  case bQ=>exact (List.forall_mem_cons.2 ⟨(fun o ho us=>by obtain rfl:=Option.some.inj ho;kernel_rfl),(List.forall_mem_cons.2 ⟨(fun o ho us=>by obtain rfl:=Option.some.inj ho;kernel_rfl),(List.forall_mem_cons.2 ⟨(fun o ho us=>by obtain rfl:=Option.some.inj ho;kernel_rfl),(List.forall_mem_cons.2 ⟨(fun o ho us=>by obtain rfl:=Option.some.inj ho;kernel_rfl),(List.forall_mem_cons.2 ⟨(fun o ho us=>by obtain rfl:=Option.some.inj ho;kernel_rfl),(fun _ h=>by cases h)⟩)⟩)⟩)⟩)⟩)
  case aX=>
   refine (List.forall_mem_cons.2 ⟨?aZ,(List.forall_mem_cons.2 ⟨?bB,(List.forall_mem_cons.2 ⟨?bC,(List.forall_mem_cons.2 ⟨?bD,(List.forall_mem_cons.2 ⟨?bE,(fun _ h=>by cases h)⟩)⟩)⟩)⟩)⟩);case aZ=>
    intro o ho us W hW hp Q' hQ';obtain rfl:=Option.some.inj ho;clear hp ho;rw[C2]at hQ' ⊢;dsimp only[E4,E0,List.foldl,zv]at hQ' ⊢;simp only[List.set_cons_succ,List.set_cons_zero];have bR:=Lib.hid ((bO.out.below (C0 S1 hW S1.size)).more (C0 S1 hW S1.size).size);go_wp2_with fail;refine (Nq _ ks W bR.out (by rw[←HN.out];exact hkn)).mono ?_;rintro e W2 ⟨rfl,b2⟩;go_wp2_with fail;exact C5 (hQ' _ _ b2 rfl (fun h=>by cases h)) (by kernel_rfl)
   case bB=>intro o ho us W hW hp Q' hQ';obtain rfl:=Option.some.inj ho;have aB:us 12=A8 (Ay ks):=hp 0 _ rfl (by kernel_rfl);clear hp ho;rw[C2]at hQ' ⊢;dsimp only[E4,E0,List.foldl,zv]at hQ' ⊢;simp only[List.set_cons_succ,List.set_cons_zero];rw[aB]at hQ' ⊢;clear aB;go_wp2_with fail;exact C5 (hQ' _ _ (Below.refl _ _) rfl (fun h=>by cases h)) (by kernel_rfl)
   case bC=>intro o ho us W hW hp Q' hQ';obtain rfl:=Option.some.inj ho;have aC:us 13=.bool false:=hp 1 _ rfl (by kernel_rfl);clear hp ho;rw[C2]at hQ' ⊢;dsimp only[E4,E0,List.foldl,zv]at hQ' ⊢;simp only[List.set_cons_succ,List.set_cons_zero];rw[aC]at hQ' ⊢;clear aC;go_wp2_with fail;exact C5 (hQ' _ _ (Below.refl _ _) rfl (fun h=>by cases h)) (by kernel_rfl)
   case bD=>intro o ho us W hW hp Q' hQ';obtain rfl:=Option.some.inj ho;have aD:us 14=.bool false:=hp 2 _ rfl (by kernel_rfl);clear hp ho;rw[C2]at hQ' ⊢;dsimp only[E4,E0,List.foldl,zv]at hQ' ⊢;simp only[List.set_cons_succ,List.set_cons_zero];rw[aD]at hQ' ⊢;clear aD;go_wp2_with fail;exact C5 (hQ' _ _ (Below.refl _ _) rfl (fun h=>by cases h)) (by kernel_rfl)
   case bE=>intro o ho us W hW hp Q' hQ';obtain rfl:=Option.some.inj ho;have aE:us 15=.bool false:=hp 3 _ rfl (by kernel_rfl);clear hp ho;rw[C2]at hQ' ⊢;dsimp only[E4,E0,List.foldl,zv]at hQ' ⊢;simp only[List.set_cons_succ,List.set_cons_zero];rw[aE]at hQ' ⊢;clear aE;go_wp2_with fail;exact C5 (hQ' _ _ (Below.refl _ _) rfl (fun h=>by cases h)) (by kernel_rfl)
  case aY=>
  intro us W2 b3 hg bI bS;have aB:us 12=A8 (Ay ks):=hg _ (List.mem_of_getElem? (i:=0) rfl);have aC:us 13=.bool false:=hg _ (List.mem_of_getElem? (i:=1) rfl);have aD:us 14=.bool false:=hg _ (List.mem_of_getElem? (i:=2) rfl);have aE:us 15=.bool false:=hg _ (List.mem_of_getElem? (i:=3) rfl);have bF:us 16=.bool false:=hg _ (List.mem_of_getElem? (i:=4) rfl);have b4:=C0 S1 b3 S1.size;rw[C2];dsimp only[E0,List.foldl,zv];simp only[List.set_cons_succ,List.set_cons_zero];rw[aB,aC,aD,aE,bF];clear hg bI bS aB aC aD aE bF b3 S1;refine I9 (by kernel_rfl) ?_;go_wp2_with fail;go_ret;exact ⟨rfl,C0 BV b4 BV.size⟩
section
structure IsTree (t : Tr) (L : List En) : Prop where
 ok:Okt t
 prs:t.pairs=pairsE L
theorem IsTree.uniq {t s:Tr} {L:List En} (h:IsTree t L) (h':IsTree s L):t=s:=Ok.ext_mem h.ok h'.ok fun x=>by rw[h.prs,h'.prs]
theorem DirIs.okE {w:World} {dv:Value} {e:Nat} {L:List En} {N:Nat} (h:DirIs w dv e L N):OkE L:=by
 obtain⟨ap,mv,m,t,h1,h2,h3,h4,h5,h6,h7⟩:=h;exact h4
theorem DirIs.tree {w:World} {dv:Value} {e:Nat} {L:List En} {N:Nat} (h:DirIs w dv e L N):∃t,IsTree t L:=by
 obtain⟨ap,mv,m,t,h1,h2,h3,h4,h5,h6,h7⟩:=h;exact ⟨t,h5,h6⟩
theorem MVN.form2 {w:World} {mv:Value} {m:List UInt8→Option Value} {N:Nat} (h:MVN w mv m N):∃b,mv=.map b:=by
 rcases h.form with h | ⟨b,h⟩
 ·exact ⟨_,h⟩
 ·exact ⟨_,h⟩
theorem DirIs.form {w:World} {dv:Value} {e:Nat} {L:List En} {N:Nat} (h:DirIs w dv e L N):∃ap b,dv=.agg #[.int .i64 (e:Int),.pointer ap,.int .i64 0,.map b]:=by
 obtain⟨ap,mv,m,t,h1,h2,_⟩:=h;obtain⟨b,rfl⟩:=h2.form2;exact ⟨ap,b,h1⟩
section
variable {w : World} {dv : Value} {e N : Nat} {L : List En} {t : Tr}
theorem C1s (h:DirIs w dv e L N):Calls Tryz.prog 19 #[dv] w fun x w'=>x=.returned (.int .i64 (e:Int))∧Below w.heap.size w w':=by
 obtain⟨ap,mv,m,s,rfl,_⟩:=h;exact Nn _ _ _ _ w
theorem Lv (h:DirIs w dv e L N) (ht:IsTree t L):Calls Tryz.prog 17 #[dv] w fun x w'=>x=.returned (A8 t.root)∧Below w.heap.size w w':=by
 obtain⟨ap,mv,m,s,rfl,h2,h3,h4,h5,h6,h7⟩:=h;obtain rfl:=ht.uniq ⟨h5,h6⟩;exact B9j t _ _ _ _ w h7
theorem Og (h:DirIs w dv e L N) (id:List UInt8) (hid:id.length=32) (hks:(lookE L id).length≤1000000):Calls Tryz.prog 23 #[dv,A8 id] w fun x w'=>∃u,x=.returned u∧Eu w' w.heap.size u (lookE L id)∧Below w.heap.size w w':=by
 obtain⟨ap,mv,m,s,rfl,h2,h3,h4,h5,h6,h7⟩:=h;exact A4j _ ap 0 mv h2.form m (lookE L) id hid (by omega) w h2.mv h3
theorem B4q (h:DirIs w dv e L N) (ht:IsTree t L) (id:List UInt8) (hid:id.length=32) (hks:(lookE L id).length≤1000000) (hL:L.length≤1000000):Calls Tryz.prog 11 #[dv,A8 id] w fun x w'=>∃u v,x=.returned (.agg #[u,v])∧Eu w' w.heap.size u (lookE L id)∧P7 w' w.heap.size v (t.cut [id] 0).bytes∧Below w.heap.size w w':=by
 obtain⟨ap,mv,m,s,rfl,h2,h3,h4,h5,h6,h7⟩:=h;obtain rfl:=ht.uniq ⟨h5,h6⟩;have hl:t.len≤1000000:=by rw[Tr.len_pairs,h6,Al];exact hL
 refine B1b _ ap mv h2.form m (lookE L) id hid (by omega) t P0 h5 (by omega) (D6d h5 _ _) ?_ w h2.mv h3 h7;have:=B9g h5 (by omega) [id] 0;have h8:t.len*(65+2*(257-0))≤1000000*579:=Nat.mul_le_mul hl (by omega);omega
theorem C2d (ht:IsTree t L) (ok:OkE L) (id:List UInt8) (hid:id.length=32) (hks:(lookE L id).length≤1000000) (kv pv:Value) (hk:Hs w 0 w.heap.size kv (lookE L id)) (hb:By w 0 w.heap.size pv (t.cut [id] 0).bytes) :
 Calls Tryz.prog 16 #[A8 t.root,A8 id,.agg #[kv,pv]] w fun x w'=>x=.returned (.int .i64 0)∧Below w.heap.size w w':=by
 have hv:=A0k t [id] 0;have aA:=hv.ok ht.ok;refine B4e t.root id t.root_length hid kv pv (lookE L id) _ (t.cut [id] 0) (A9z aA (hv.tight ht.ok)) aA.wf aA.dp hv.root ?_ hks w hk hb;rw[A3a hv (Wg t [id] 0 (by simp)),A9h ht.ok ok ht.prs];rfl
end
end
section
noncomputable def u1:UV:=mkU (h1 1) 1 (h1 2)
theorem E7a:u1.Ok:=C3g _ _ (Fr 2)
theorem D0b:Kh (lookE [] u1.id) u1=true:=by
 unfold Kh;have h:signedB u1=true:=E5w.2;rw[h];rfl
theorem D7e:u1.key=h1 2:=by unfold u1 mkU;rfl
theorem A8z:applyE [u1] []=[(u1.id,[h1 2])]:=by
 have h:applyE [u1] []=Hi [] u1:=by unfold applyE;rw[List.foldl_cons,List.foldl_nil]
 rw[h];unfold Hi;rw[D0b,if_pos rfl,D7e];unfold Er;simp[lookE]
theorem B5m:lookE [(u1.id,[h1 2])] u1.id=[h1 2]:=by unfold lookE;rw[if_pos rfl]
theorem D1p:((Tr.lf eu9.B (Ay [h1 2])).root==z8 32)=false:=by decide +kernel
theorem E3z:u1.id=eu9.B:=by
 have h:u1=⟨eu9.B,1,h1 2,eu9.F++eu9.SB⟩:=E5w.1;rw[h]
theorem B9r {t:Tr} {k v:List UInt8} (ht:Okt t) (h:t.pairs=[(k,v)]):t=.lf k v:=by
 cases t with
 | e=>simp[Tr.pairs]at h
 | lf a b=>
  simp only[Tr.pairs,List.cons.injEq,Prod.mk.injEq,and_true]at h;rw[h.1,h.2]
 | nd l r=>
  have h2:(Tr.nd l r).pairs.length=1:=by rw[h];rfl
  rw[←Tr.len_pairs]at h2;have h3:2≤l.len+r.len:=ht.2.1;have e:(Tr.nd l r).len=l.len+r.len:=rfl;omega
theorem B4w {t:Tr} (ht:IsTree t [(u1.id,[h1 2])]):(t.root==z8 32)=false:=by
 have h:t=.lf u1.id (Ay [h1 2]):=B9r ht.ok (ht.prs.trans (by unfold pairsE;rw[List.map_cons,List.map_nil]));rw[h,E3z];exact D1p
theorem D6q:mkU (h1 1) 1 (h1 2)=u1:=by unfold u1;rfl
attribute [irreducible] u1
theorem By.zero {w:World} {lo B:Nat} {v:Value} {l:List UInt8} (h:By w lo B v l):By w 0 B v l:=by
 obtain⟨A,c,e,h1,h2,h3⟩:=h;exact ⟨A,c,e,h1,h2,h3.less (Nat.zero_le _)⟩
theorem D7j (w:World) {N:Nat} (hN:w.heap.size=N) {u:UV} (hu:u.Ok):US (w.alloc (Obj.cells (Aw u).toArray 63)) (w.alloc (Obj.cells (Aw u).toArray 63)).heap.size (.slice (some ⟨N,0,none⟩) 1 1) [u]:=by
 subst hN;exact .inr ⟨w.heap.size,[],1,rfl,⟨fun x hx=>(by simp at hx;subst hx;exact hu),by simpa using Bk.new w 63 (Aw u)⟩,by simp⟩
theorem B0b (w:World):(Instr.build 34 #[]).run Tryz.prog w=.ok (.agg #[.int .i64 0,.pointer none,.int .i64 0,.map none]) w:=by kernel_rfl
attribute [local go_sem ↓ high] Hk Re
theorem C0q (w:World):Calls Tryz.prog 7 #[] w fun x w'=>x=.returned (.bool true)∧Below w.heap.size w w':=by
 have cO:=B0b;go_enter Tryz.func7,Tryz.ntmps7;go_wp2_with fail;refine (B1l (h1 1) 1 (h1 2) (Fr 1) (Fr 2) w).mono ?_;rintro x w2 ⟨rfl,b2⟩;rw[D6q];obtain⟨u,hu⟩:∃u,u=u1:=⟨_,rfl⟩;have aK:u.Ok:=by rw[hu];exact E7a
 have cF:Hid (applyE [u] []=[(u.id,[h1 2])]):=Lib.hid (by rw[hu];exact A8z);have bG:Hid (lookE [(u.id,[h1 2])] u.id=[h1 2]):=Lib.hid (by rw[hu];exact B5m);have cG:Hid (∀ {t:Tr},IsTree t [(u.id,[h1 2])]→(t.root==z8 32)=false):=Lib.hid (by rw[hu];exact B4w);rw[←hu];clear hu;have bV:=aK.len;have bK:=aK.id;have aL:=(Bk.new w2 63 (Aw (Rg 129))).canvc (n:=129) (Ku _).len;obtain⟨w3,aR⟩:∃x,x=C9 (w2.alloc (Obj.cells (Aw (Rg 129)).toArray 63)) ⟨w2.heap.size,0,none⟩ (Aw u):=⟨_,rfl⟩;have ku:Bk w3 w2.heap.size 63 (Aw u):=by rw[aR];exact (Bk.new w2 63 (Aw (Rg 129))).putvc (n:=129) (Ku _).len bV
 have b3:Below w2.heap.size w2 w3:=by rw[aR];exact C1 ((Below.refl _ _).alloc (Nat.le_refl _) _) (Nat.le_refl _) _
 have B3:=C0 b2 b3 b2.size;have bL:w3.heap.size=w2.heap.size+1:=by rw[aR];simp
 have r3:=ku.rowvc (n:=129) bV;rw[aR]at r3;go_wp2_with fail;rw[←aR];clear aR aL r3 b3;have bL:=Lib.hid bL;generalize w2.heap.size=gu at *;have B4:=B3.alloc B3.size (Obj.cells (Aw u).toArray 63);have bM:=ku.alloc (Obj.cells (Aw u).toArray 63);refine (A2t _ 0 [] 0 [u] _ (w3.alloc (Obj.cells (Aw u).toArray 63)) (DirIs.nil _) (D7j w3 bL.out aK) (by omega) (by simp) (by simp) (fun x=>by simp[lookE])).mono ?_;rintro x w5 ⟨dv,rfl,hD,b5⟩;have hD:DirIs w5 dv 1 [(u.id,[h1 2])] 1:=by rw[←cF.out];exact hD
 obtain⟨ap,mb,rfl⟩:=hD.form;rw[show ((1:Nat):Int)=1 from rfl]at hD ⊢;have B5:=C0 B4 b5 B4.size;have bN:=bM.below b5 bM.lt;clear b5 bM B4 ku B3 b2;have k0:=Bk.new w5 34 [.int .i64 0,.pointer none,.int .i64 0,.map none];have aL:E8 (w5.alloc (Obj.cells #[.int .i64 0,.pointer none,.int .i64 0,.map none] 34)) ⟨w5.heap.size,0,none⟩ 4=true:=k0.can (by simp);obtain⟨w6,aW⟩:∃x,x=C9 (w5.alloc (Obj.cells #[.int .i64 0,.pointer none,.int .i64 0,.map none] 34)) ⟨w5.heap.size,0,none⟩ [.int .i64 1,.pointer ap,.int .i64 0,.map mb]:=⟨_,rfl⟩;have kd:Bk w6 w5.heap.size 34 [.int .i64 1,.pointer ap,.int .i64 0,.map mb]:=by rw[aW];exact k0.puts (by simp)
 have b6:Below w5.heap.size w5 w6:=by rw[aW];exact C1 ((Below.refl _ _).alloc (Nat.le_refl _) _) (Nat.le_refl _) _
 have bO:=hD.up b6;have bH:=bN.below b6 bN.lt;have B6:=C0 B5 b6 B5.size;have r4:E5 w6 ⟨w5.heap.size,0,none⟩ 4=some [.int .i64 1,.pointer ap,.int .i64 0,.map mb]:=kd.rows;have r5:=UV.loadid bH aK;rw[aW]at r4 r5;clear k0 hD bN B5 b6;go_wp2_with fail;rw[←aW];clear aW aL r4 r5;generalize w5.heap.size=gd at *;refine (Og bO u.id bK (by rw[bG.out];decide)).mono ?_;rintro x w7 ⟨kv,rfl,ho,b7⟩;rw[bG.out]at ho;have hH:=ho.hs;obtain⟨A,c,rfl,_,_⟩:=ho.form;obtain⟨gk,ok,rfl,cH,bX⟩:=Hs.at_ (hH.less (Nat.zero_le _)) (m:=0) (k:=h1 2) rfl;have bY:=bO.up b7;have bP:=bH.below b7 bH.lt;have bQ:=kd.below b7 kd.lt;have B7:=C0 B6 b7 B6.size;have bR:([h1 2]:List (List UInt8)).length=1:=rfl;rw[bR];clear bO bH kd B6 b7 ho hH;go_wp2_with fail;have S0:Below w7.heap.size w7 w7.drew:=(Below.refl _ _).drew;have bS:=bY.up S0;have bT:=bP.below S0 bP.lt;have bU:=bQ.below S0 bQ.lt;have B8:=C0 B7 S0 B7.size;have aX:E5 w7.drew ⟨gk,ok,none⟩ 32=some (c8 (h1 2)):=by have:=bX;rwa [Nat.zero_mul,Nat.add_zero]at this
 have aY:gk<w7.drew.heap.size:=cH;have cP:=Fr 2;obtain⟨t,ht⟩:=bS.tree;have HT:=Lib.hid ht;have cQ:=t.root_length;have cR:=cG.out ht;clear bY bP bQ B7 bX ht;refine F2 (fun X=>Bk X gd 34 [.int .i64 1,.pointer ap,.int .i64 0,.map mb]∧Bk X gu 63 (Aw u)∧E5 X ⟨gk,ok,none⟩ 32=some (c8 (h1 2))) (by kernel_rfl) ?_;refine C6 (A:=?cS) [0] (by kernel_rfl) (by kernel_rfl) rfl (by kernel_rfl) (by kernel_rfl) ⟨bU,bT,aX⟩ (h:=fun X hX=>?cI) (hr:=?cT);case cI=>
  have f1:E5 X ⟨gd,0,none⟩ 4=some [.int .i64 1,.pointer ap,.int .i64 0,.map mb]:=hX.1.rows;have f2:=UV.loadid hX.2.1 aK;have f3:=hX.2.2;simp only[pick,List.getElem?_cons_zero,List.getElem?_cons_succ];repeat (go_big_quiet_step (fail))
  refine wpQuiet_nil ?_;rfl
 refine C4 1 (by kernel_rfl) (by rfl) (by kernel_rfl) (fun Q' hQ'=>?_);dsimp only[E4];have aA:=Lib.hid hQ';clear hQ';go_wp2_with fail;refine (C1s bS).mono ?_;rintro x w9 ⟨rfl,b9⟩;have bZ:=bS.up b9;have bI:=bT.below b9 bT.lt;have bJ:=bU.below b9 bU.lt;have B9:=C0 B8 b9 B8.size;have aM:=(Bw (a:=⟨gk,ok,none⟩) b9 aY).trans aX;have aZ:=Nat.lt_of_lt_of_le aY b9.size;go_wp2_with fail;refine aA.out _ _ ⟨bJ,bI,aM⟩ ?_;clear aA;refine C6 (A:=?cU) [2,3,4,5,6,7,8,9,10,11,12,13,14,15,16,18] (by kernel_rfl) (by kernel_rfl) rfl (by kernel_rfl) (by kernel_rfl) ⟨bJ,bI,aM⟩ (h:=fun X hX=>?cJ) (hr:=?cV);case cJ=>
  have f1:E5 X ⟨gd,0,none⟩ 4=some [.int .i64 1,.pointer ap,.int .i64 0,.map mb]:=hX.1.rows;have f2:=UV.loadid hX.2.1 aK;have f3:=hX.2.2;simp only[List.append_eq,List.nil_append,List.cons_append,pick,List.getElem?_cons_zero,List.getElem?_cons_succ];repeat (go_big_quiet_step (fail))
  refine wpQuiet_nil ?_;rfl
 refine C4 17 (by kernel_rfl) (by rfl) (by kernel_rfl) (fun Q' hQ'=>?_);dsimp only[E4];have aA:=Lib.hid hQ';clear hQ';go_wp2_with fail;refine (Lv bZ HT.out).mono ?_;rintro x cW ⟨rfl,aS⟩;have bB:=bZ.up aS;have aC:=bI.below aS bI.lt;have aD:=bJ.below aS bJ.lt;have cB:=C0 B9 aS B9.size;have aB:=(Bw (a:=⟨gk,ok,none⟩) aS aZ).trans aM;have aE:=Nat.lt_of_lt_of_le aZ aS.size;go_wp2_with fail;refine aA.out _ _ ⟨aD,aC,aB⟩ ?_;clear aA;refine C6 (A:=?cX) [19,20,21,22,24,25,26,27,28] (by kernel_rfl) (by kernel_rfl) rfl (by kernel_rfl) (by kernel_rfl) ⟨aD,aC,aB⟩ (h:=fun X hX=>?cK) (hr:=?cY);case cK=>
  have f1:E5 X ⟨gd,0,none⟩ 4=some [.int .i64 1,.pointer ap,.int .i64 0,.map mb]:=hX.1.rows;have f2:=UV.loadid hX.2.1 aK;have f3:=hX.2.2;simp only[List.append_eq,List.nil_append,List.cons_append,pick,List.getElem?_cons_zero,List.getElem?_cons_succ];repeat (go_big_quiet_step (fail))
  refine wpQuiet_nil ?_;rfl
 refine C4 23 (by kernel_rfl) (by rfl) (by kernel_rfl) (fun Q' hQ'=>?_);dsimp only[E4];have aA:=Lib.hid hQ';clear hQ';go_wp2_with fail;refine (Lv bB HT.out).mono ?_;rintro x cZ ⟨rfl,aT⟩;have bC:=bB.up aT;have aN:=aC.below aT aC.lt;have aO:=aD.below aT aD.lt;have cC:=C0 cB aT cB.size;have aF:=(Bw (a:=⟨gk,ok,none⟩) aT aE).trans aB;have aG:=Nat.lt_of_lt_of_le aE aT.size;go_wp2_with fail;refine aA.out _ _ ⟨aO,aN,aF⟩ ?_;clear aA;refine C4 29 (by kernel_rfl) (by rfl) (by kernel_rfl) (fun Q' hQ'=>?_);dsimp only[E4];have aA:=Lib.hid hQ';clear hQ';go_wp2_with fail;refine (B4q bC HT.out u.id bK (by rw[bG.out];decide) (by simp)).mono ?_;rintro x dC ⟨av,pv,rfl,ho,hp,aU⟩;have HO:=Lib.hid (ho.hs.less (Nat.zero_le _));have HP:=Lib.hid (hp.by_);obtain⟨Aa,ca,rfl,_,_⟩:=ho.form;obtain⟨Ap,cp,rfl,_,_⟩:=hp.form;clear ho hp;have bD:=bC.up aU;have aP:=aN.below aU aN.lt;have aQ:=aO.below aU aO.lt;have cD:=C0 cC aU cC.size;have aH:=(Bw (a:=⟨gk,ok,none⟩) aU aG).trans aF;have aI:=Nat.lt_of_lt_of_le aG aU.size;go_wp2_with fail;refine aA.out _ _ ⟨aQ,aP,aH⟩ ?_;clear aA;refine C4 30 (by kernel_rfl) (by rfl) (by kernel_rfl) (fun Q' hQ'=>?_);dsimp only[E4];have aA:=Lib.hid hQ';clear hQ';go_wp2_with fail;refine (C2d HT.out bD.okE u.id bK (by rw[bG.out];decide) _ _ HO.out (By.zero HP.out)).mono ?_;rintro x dD ⟨rfl,aV⟩
 have cL:=bD.up aV;have bE:=aP.below aV aP.lt;have bF:=aQ.below aV aQ.lt;have cM:=C0 cD aV cD.size;have aJ:=(Bw (a:=⟨gk,ok,none⟩) aV aI).trans aH;have cE:=Nat.lt_of_lt_of_le aI aV.size;go_wp2_with fail;refine aA.out _ _ ⟨bF,bE,aJ⟩ ?_;clear aA;refine C6 (A:=?dF) [31,32,33] (by kernel_rfl) (by kernel_rfl) rfl (by kernel_rfl) (by kernel_rfl) ⟨bF,bE,aJ⟩ (h:=fun X hX=>?cN) (hr:=?dG);case cN=>
  simp only[List.append_eq,List.nil_append,List.cons_append,pick,List.getElem?_cons_zero,List.getElem?_cons_succ];repeat (go_big_quiet_step (fail))
  refine wpQuiet_nil ?_;rfl
 refine I9 (by kernel_rfl) ?_;go_wp2_with fail;go_ret;exact ⟨rfl,cM⟩
end
section
section
variable {w w' : World} {g o : Nat} {T : TypeId} {ds vs : List Value}
theorem DirIs.put {dv:Value} {e:Nat} {L:List En} {N:Nat} (h:DirIs w dv e L N) (hk:Bk w g T ds) (hd:C1e ds) (hT:T≠147):DirIs (C9 w ⟨g,o,none⟩ vs) dv e L N:=by
 obtain⟨ap,mv,m,t,h1,h2,h3,h4,h5,h6,h7⟩:=h;refine ⟨ap,mv,m,t,h1,?_,fun k=>?_,h4,h5,h6,?_⟩
 ·rcases h2 with h2 | ⟨b,n,hn,hb,hm⟩
  ·exact .inl h2
  ·refine .inr ⟨b,n,hn,hb,hm.kept (Y0 w g o vs) fun e=>?_⟩;obtain⟨ob,q1,q2⟩:=hm.row b rfl;injection e with e;subst e;unfold Bk at hk;rw[hk]at q1;injection q1 with q1;subst q1;cases q2
 ·rcases h3 k with h | ⟨h,hn,ht⟩
  ·exact .inl h
  ·refine .inr ⟨?_,hn,ht.putAt g vs o⟩;have:=C5s (o:=o) (vs:=vs) h hn hk hd;simpa using this
 ·have:=At.put_ hk hT o vs h7;simpa using this
theorem BatchIs.put {ov gv:Value} {bs:List (List UV)} (h:BatchIs w ov gv bs) (hk:Bk w g T ds) (h1:T≠39) (h2:T≠41) (h3:T≠63) (h4:T≠4):BatchIs (C9 w ⟨g,o,none⟩ vs) ov gv bs:=by
 obtain⟨os,gs,a,b,c,d⟩:=h;have hg:=Y0 w g o vs;refine ⟨os,gs,World.ownsRow.kept a hg (.inr fun e=>Bh hk a h1 e.symm),World.ownsRow.kept b hg (.inr fun e=>Bh hk b h2 e.symm),c.mono fun v x y=>?_,d.mono fun v x y=>?_⟩
 ·rcases y with y | ⟨g',tl,c',y1,y2,y3⟩
  ·exact .inl y
  ·exact .inr ⟨g',tl,c',y1,⟨y2.1,y2.2.putFar (fun e=>Bk.apart y2.2 hk h3.symm e) _⟩,by simpa using y3⟩
 ·rcases y with y | ⟨g',tl,c',y1,y2,y3⟩
  ·exact .inl y
  ·exact .inr ⟨g',tl,c',y1,y2.putFar (fun e=>Bk.apart y2 hk h4.symm e) _,by simpa using y3⟩
theorem BatchIs.up {ov gv:Value} {bs:List (List UV)} (h:BatchIs w ov gv bs) (hb:Below w.heap.size w w'):BatchIs w' ov gv bs:=by
 obtain⟨os,gs,a,b,c,d⟩:=h;exact ⟨os,gs,Cv a hb (Nat.le_refl _),Cv b hb (Nat.le_refl _),c.mono fun v x y=>(y.below hb).more hb.size,d.mono fun v x y=>(y.below hb).more hb.size⟩
theorem BatchIs.form {ov gv:Value} {bs:List (List UV)} (h:BatchIs w ov gv bs):(∃A c,ov=.slice A bs.length c)∧∃A c,gv=.slice A bs.length c:=by
 obtain⟨os,gs,a,b,c,d⟩:=h;have hc:=c.len;have hd:gs.length=bs.length:=by have:=d.len;simpa using this
 rw[hc]at a;rw[hd]at b;obtain⟨A,n,h1,_⟩:=Bm a;obtain⟨A',n',h2,_⟩:=Bm b;exact ⟨⟨A,n,h1⟩,⟨A',n',h2⟩⟩
theorem BatchIs.at_ {A A':Option Addr} {c c' n n':Nat} {bs:List (List UV)} (h:BatchIs w (.slice A n c) (.slice A' n' c') bs) {i:Nat} {us:List UV} (hi:bs[i]?=some us) :
 ∃g1 g2 u v,A=some ⟨g1,0,none⟩∧A'=some ⟨g2,0,none⟩∧g1<w.heap.size∧g2<w.heap.size∧w.cell? ⟨g1,i,none⟩=some u∧w.cell? ⟨g2,i,none⟩=some v∧US w w.heap.size u us∧BS w w.heap.size v (us.map signedB)∧∀(g:Nat) (T:TypeId) (ds:List Value),Bk w g T ds→39≠T→41≠T→g1≠g∧g2≠g:=by
 obtain⟨os,gs,a,b,cc,d⟩:=h;obtain⟨u,hu,aA⟩:=cc.at_ hi;obtain⟨v,hv,aB⟩:=d.at_ (i:=i) (x:=us.map signedB) (by rw[List.getElem?_map,hi];rfl);rcases A7d a with ⟨_,h0⟩ | ⟨g1,t1,c1,e1,k1,l1⟩
 ·have:=(List.getElem?_eq_some_iff.1 hu).1;omega
 ·rcases A7d b with ⟨_,h0⟩ | ⟨g2,t2,c2,e2,k2,l2⟩
  ·have:=(List.getElem?_eq_some_iff.1 hv).1;omega
  ·injection e1 with e1;injection e2 with e2;have q1:(os++t1)[i]?=some u:=by rw[List.getElem?_append_left (List.getElem?_eq_some_iff.1 hu).1];exact hu
   have q2:(gs++t2)[i]?=some v:=by rw[List.getElem?_append_left (List.getElem?_eq_some_iff.1 hv).1];exact hv
   exact ⟨g1,g2,u,v,e1,e2,l1,l2,k1.at_ q1,k2.at_ q2,aA,aB,fun g T ds hk h1 h2=>⟨Bk.apart k1 hk h1,Bk.apart k2 hk h2⟩⟩
end
theorem B4l {L:List En} {u:UV} (ok:OkE L) (hu:u.Ok):OkE (Hi L u)∧(Hi L u).length≤L.length+1∧∀x,(lookE (Hi L u) x).length≤(lookE L x).length+1:=by
 unfold Hi;split
 ·exact ⟨ok.with hu.id hu.key,B9n ok hu.id,fun x=>C8l ok hu.id hu.key (i:=0) (fun y=>Nat.le_refl _) x⟩
 ·exact ⟨ok,Nat.le_succ _,fun x=>Nat.le_succ _⟩
theorem Xq:∀ {us:List UV} {L:List En},OkE L→(∀u∈us,u.Ok)→OkE (applyE us L)∧(applyE us L).length≤L.length+us.length∧∀x,(lookE (applyE us L) x).length≤(lookE L x).length+us.length
 | [],L,ok,_=>⟨ok,Nat.le_refl _,fun x=>Nat.le_refl _⟩
 | u::us,L,ok,h=>by
  obtain⟨h1,h2,h3⟩:=B4l ok (h u (by simp));obtain⟨h4,h5,h6⟩:=Xq (us:=us) h1 fun x hx=>h x (List.mem_cons_of_mem _ hx);have e:applyE (u::us) L=applyE us (Hi L u):=rfl;rw[e];refine ⟨h4,?_,fun x=>?_⟩
  ·simp only[List.length_cons];omega
  ·have a:=h6 x;have b:=h3 x;simp only[List.length_cons];omega
theorem A1b (e:Int) (ap:Option Addr) (d:Int) (b:Option Nat):C1e [.int .i64 e,.pointer ap,.int .i64 d,.map b]:=by
 intro x hx y;simp only[List.mem_cons,List.not_mem_nil,or_false]at hx;rcases hx with rfl | rfl | rfl | rfl<;>(intro h;unfold v8 at h;first | cases h | (injection h with h;cases h))
theorem US.allOk {w:World} {B:Nat} {v:Value} {us:List UV} (h:US w B v us):∀u∈us,u.Ok:=by
 rcases h with ⟨rfl,_⟩ | ⟨g,tl,c,_,h2,_⟩
 ·intro u hu;cases hu
 ·exact h2.1
end
end Go.Proofs.YtlegpkdighoflaaGreat
