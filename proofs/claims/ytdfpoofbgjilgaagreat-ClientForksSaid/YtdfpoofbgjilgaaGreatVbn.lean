/- A part of the proof of ClientForks. -/
import Derived.Test.YtdfpoofbgjilgaaGreatVbm
set_option linter.unusedVariables false
set_option linter.unusedSimpArgs false
set_option maxRecDepth 100000
set_option maxHeartbeats 40000000
namespace Go.Proofs.YtdfpoofbgjilgaaGreat
open Go Go.RowKit Sh
section
theorem Nl (w:World) (b:Nat) (o:Obj):w.grownBy (ChangeMaps.setBlock w b o) (some b):=⟨rfl,rfl,rfl,by simp[ChangeMaps.setBlock],fun k _ hn=>by
 have:b≠k:=fun e=>hn (by rw[e]);simp[ChangeMaps.setBlock,Array.getElem?_setIfInBounds_ne this]⟩
theorem B3t {w:World} {b:Nat} (o:Obj) (h:b<w.heap.size):(ChangeMaps.setBlock w b o).heap[b]?=some o:=by simp[ChangeMaps.setBlock,h]
theorem D4z {w:World} {base g:Nat} {T:TypeId} {cs:List Value} {v:Value} {ks:List (List UInt8)} (h:Ad w base v ks) (hk:Bk w g T cs) (hT:T≠35):v.ownBlock=none∨v.ownBlock≠some g:=by
 rcases h.2.2 with ⟨hv,_⟩ | ⟨g',cap,cur,hv,hg,hh,_⟩
 ·left;simp[hv,Value.ownBlock]
 ·right
  intro e;rw[hv]at e;simp only[Value.ownBlock,Option.some.injEq]at e;subst e;unfold Bk at hk;rw[hh]at hk;injection hk with hk;injection hk with _ h2;exact hT h2.symm
theorem Sm {w:World} {base b:Nat} {v:Value} {ks:List (List UInt8)} (h:Ad w base v ks) (hm:∃o:Obj,w.heap[b]?=some o∧o.isCells=false):v.ownBlock=none∨v.ownBlock≠some b:=by
 obtain⟨o,ho,hc⟩:=hm;rcases h.2.2 with ⟨hv,_⟩ | ⟨g',cap,cur,hv,hg,hh,_⟩
 ·left;simp[hv,Value.ownBlock]
 ·right
  intro e;rw[hv]at e;simp only[Value.ownBlock,Option.some.injEq]at e;subst e;rw[hh]at ho;injection ho with ho;rw[←ho]at hc;cases hc
theorem Ad.kept {w w':World} {base:Nat} {row:Option Nat} {v:Value} {ks:List (List UInt8)} (h:Ad w base v ks) (hg:w.grownBy w' row) (hne:v.ownBlock=none∨v.ownBlock≠row):Ad w' base v ks:=⟨h.1,World.ownsRow.kept h.2 hg hne⟩
theorem MapV.rowM {w:World} {b n:Nat} {m:List UInt8→Option Value} (h:MapV w b n m):∃o:Obj,w.heap[b]?=some o∧o.isCells=false:=by
 obtain⟨D,⟨es,aA,hb,_⟩,_⟩:=h;exact ⟨_,hb,rfl⟩
section
variable {w w' : World} {rb mb q c : Nat} {A : Option Addr} {K : List (List UInt8)}
theorem Rg.newer {v W W':World} (h:Rg v rb mb A q c K) (hR:Rg W rb mb A q c K) {b:Nat} (hb:v.heap.size≤b) (hs:v.heap.size≤W.heap.size) (hg:W.grownBy W' (some b)):Rg W' rb mb A q c K:=by
 have z1:=h.bk.lt;have z2:=h.mlt;have aA:Below v.heap.size W W':=⟨hg.os,hg.tape,hg.output,hg.size,fun k hk=>hg.block k (Nat.lt_of_lt_of_le hk hs) (fun e=>by injection e with e;omega)⟩;refine ⟨hR.bk.grown hg (fun e=>by injection e with e;omega),?_,hR.mp.kept hg (fun e=>by injection e with e;omega),hR.len,hR.small⟩;obtain⟨_,A1,c1,e1,_,_,r1⟩:=h.hs;obtain⟨h0,A2,c2,e2,a2,b2,r2⟩:=hR.hs;have eA:A1=A2:=by rw[e1]at e2;injection e2
 subst eA;refine Hs.more (B:=v.heap.size) ⟨h0,A1,c2,e2,a2,b2,Rd.below ?_ aA⟩ (Nat.le_trans hs aA.size);rcases r1 with r1 | ⟨g,o',rfl,_,hg,_⟩
 ·exact .inl r1
 ·rcases r2 with r2 | ⟨g2,o2,e,_,_,hc⟩
  ·exact .inl r2
  ·cases e;exact .inr ⟨g,o',rfl,Nat.zero_le _,hg,hc⟩
theorem B0g {v:World} (hv:Rg v rb mb A q c K) (hvw:v.heap.size≤w.heap.size) (h:Rg w rb mb A q c K) {g kb:Nat} {n0:Int} {h0:List UInt8} (hk:Bk w g 149 (Rm (some ⟨rb,0,none⟩) n0 h0 (some kb))) (hh0:h0.length=32) (hm:MapV w kb 0 (fun _=>none)) (hkg:kb≠g) (hvg:v.heap.size≤g) (hvk:v.heap.size≤kb)
 (A1 A2 A3:Option Addr) (n1 c1 n2 c2 n3 c3:Nat) (n:Int) (l:List UInt8) (e':Int) (hl:l.length=32) (hc:RtC rb mb A q c K w (.agg #[.slice A1 n1 c1,.slice A2 n2 c2,.slice A3 n3 c3]) n l e') (hsy:syE n l e' n0 h0=0)
 (id:List UInt8) (hid:id.length=32) (Ak Av:Option Addr) (ck nv cv:Nat) (k1:List UInt8) {base:Nat} (hbase:base≤w.heap.size) (hkv:Ad w base (.slice Ak 1 ck) [k1])
 (hd:∀W,w.grownBy W (some mb)→Calls Tryz.prog 67 #[A8 l,A8 id,.agg #[.slice Ak 1 ck,.slice Av nv cv]] W fun x w'=>x=.returned (.int .i64 0)∧Below W.heap.size W w') :
 Calls Tryz.prog 23 #[.pointer (some ⟨g,0,none⟩),.agg #[.slice A1 n1 c1,.slice A2 n2 c2,.slice A3 n3 c3],A8 id,.agg #[.slice Ak 1 ck,.slice Av nv cv]] w fun x w'=>
  ∃Au cu,x=.returned (.tuple #[.slice Au 1 cu,.int .i64 0])∧GrX [mb,g,kb] w w'∧Rg w' rb mb A q c K∧Bk w' g 149 (Rm (some ⟨rb,0,none⟩) n l (some kb)):=by
 obtain⟨W0,bL⟩:∃z,z=(((w.alloc (Obj.cells #[.slice A1 n1 c1,.slice A2 n2 c2,.slice A3 n3 c3] 33)).alloc (Obj.cells (c8 id).toArray 35)).alloc (Obj.cells #[.slice Ak 1 ck,.slice Av nv cv] 86)):=⟨_,rfl⟩;have hL:W0=Q6 w [(33,[.slice A1 n1 c1,.slice A2 n2 c2,.slice A3 n3 c3]),(35,c8 id),(86,[.slice Ak 1 ck,.slice Av nv cv])]:=bL;have kC:Bk W0 w.heap.size 33 [.slice A1 n1 c1,.slice A2 n2 c2,.slice A3 n3 c3]:=by rw[hL];exact E0 _ w 0 _ _ rfl
 have kI:Bk W0 (w.heap.size+1) 35 (c8 id):=by rw[hL];exact E0 _ w 1 _ _ rfl
 have kA:Bk W0 (w.heap.size+2) 86 [.slice Ak 1 ck,.slice Av nv cv]:=by rw[hL];exact E0 _ w 2 _ _ rfl
 have B0:Below w.heap.size w W0:=by rw[hL];exact H6 _ _
 have S0:W0.heap.size=w.heap.size+3:=by rw[hL,O7];rfl
 have hz:(z8 32).length=32:=I1 32;have cO:=h.apart hk;have cP:=h.mlt;have cQ:=h.up B0;have bM:=hk.below B0 hk.lt;have cR:=hc.later (S4 B0 (Nat.le_refl _));have aI:W0.grownBy W0.drew (some mb):=⟨rfl,rfl,rfl,Nat.le_refl _,fun _ _ _=>rfl⟩;have aJ:Rg W0.drew rb mb A q c K:=cQ.up ((Below.refl _ _).drew);have aK:mb<W0.drew.heap.size:=cQ.mlt;have hs:∀W,W0.grownBy W (some mb)→Rg W rb mb A q c K→Calls Tryz.prog 66 #[.pointer (some ⟨g,0,none⟩),.agg #[.slice A1 n1 c1,.slice A2 n2 c2,.slice A3 n3 c3]] W fun x w'=>x=.returned (.tuple #[Cf n l,.int .i64 0])∧W.grownBy w' (some mb)∧Rg w' rb mb A q c K:=fun W hg hR=>by
  have:=B0o hR (bM.grown hg (fun e=>by injection e with e;exact cO e)) hh0 A1 A2 A3 n1 c1 n2 c2 n3 c3 n l e' hl (cR.later hg);rwa [(A3o hsy).1,(A3o hsy).2,hsy]at this
 have HH:=Lib.hid h;have HC:=Lib.hid hs;have HB:=Lib.hid B0;have bN:=Lib.hid S0;have eG:=hk.lt;have HM:=Lib.hid cP;have eH:=Lib.hid hm;have HD:=Lib.hid hd;have cS:=Lib.hid hkv;have eI:=hm.lt;have eJ:kb≠mb:=by have:=hv.mlt;omega
 have fH:=Lib.hid hm.rowM;clear h hc cR hk B0 S0 cP hs hsy hm hd hL hkv;go_enter Tryz.func23,Tryz.ntmps23;go_wp2_with fail;rw[←bL];clear bL;refine E3 (fun W=>W0.grownBy W (some mb)∧Rg W rb mb A q c K) (by kernel_rfl) ?_;refine C5 (A:=?fI) [0,1,2,3] (by kernel_rfl) (by kernel_rfl) rfl (by kernel_rfl) (by kernel_rfl) ⟨aI,aJ⟩ (h:=fun W hW=>?eK) (hr:=?fJ);case eK=>
  have bO:=kC.grown hW.1 (fun e=>by injection e with e;have:=HM.out;omega);have k0:=bO.at_ (i:=0) rfl;have k1:=bO.at_ (i:=1) rfl;have k2:=bO.at_ (i:=2) rfl;simp only[pick,List.getElem?_cons_zero,List.getElem?_cons_succ];repeat (go_big_quiet_step (fail))
  refine wpQuiet_nil ?_;rfl
 refine Qv (Lw rb mb A q c K) [zv 4 21 (.tuple #[Cf n l,.int .i64 0]),zv 5 16 (.tuple #[Cf n l,.int .i64 0]),zv 6 22 (Cf n l),zaR mb 8 10 37 (Q9 0 (z8 32)),zv 7 23 (.int .i64 0)] (zv 7 23 (.int .i64 0)) (List.mem_of_getElem? (i:=4) rfl) (by kernel_rfl) rfl rfl (by kernel_rfl) (by kernel_rfl) (by kernel_rfl) ?eL (fun W hW=>⟨aI.trans hW.1,hW.2 aJ⟩) ?aL ?aM ?aN;case aL=>exact (List.forall_mem_cons.2 ⟨fun _ _ _ h _=>h,(List.forall_mem_cons.2 ⟨fun _ _ _ h _=>h,(List.forall_mem_cons.2 ⟨fun _ _ _ h _=>h,(List.forall_mem_cons.2 ⟨Zu rb mb A q c K 8 10 _ _,(List.forall_mem_cons.2 ⟨fun _ _ _ h _=>h,(fun _ h=>by cases h)⟩)⟩)⟩)⟩)⟩)
 case aM=>
  refine (List.forall_mem_cons.2 ⟨?bP,(List.forall_mem_cons.2 ⟨?bQ,(List.forall_mem_cons.2 ⟨?bR,(List.forall_mem_cons.2 ⟨Nz aK rfl rfl (fun ρ W=>Yu W ρ _ _ _ _ _),(List.forall_mem_cons.2 ⟨?bS,(fun _ h=>by cases h)⟩)⟩)⟩)⟩)⟩);case bP=>
   intro o ho us W hW hp Q' hQ';obtain rfl:=Option.some.inj ho;clear hp ho;rw[C2]at hQ' ⊢;dsimp only[E5,E6,List.foldl,zv,zaR]at hQ' ⊢;simp only[List.set_cons_succ,List.set_cons_zero];go_wp2_with fail;refine (HC.out W (aI.trans hW.1) (hW.2 aJ)).mono ?_;rintro e W2 ⟨rfl,b2,r2⟩;go_wp2_with fail;exact C9 (hQ' _ _ ⟨b2,fun _=>r2⟩ rfl (fun h=>by cases h)) (by kernel_rfl)
  case bQ=>intro o ho us W hW hp Q' hQ';obtain rfl:=Option.some.inj ho;have gu:us 4=(.tuple #[Cf n l,.int .i64 0]):=hp 0 _ rfl (by kernel_rfl);clear hp ho;rw[C2]at hQ' ⊢;dsimp only[E5,E6,List.foldl,zv,zaR]at hQ' ⊢;simp only[List.set_cons_succ,List.set_cons_zero];rw[gu]at hQ' ⊢;clear gu;go_wp2_with fail;exact C9 (hQ' _ _ ((Lw rb mb A q c K).refl _) rfl (fun h=>by cases h)) (by kernel_rfl)
  case bR=>intro o ho us W hW hp Q' hQ';obtain rfl:=Option.some.inj ho;have gu:us 5=(.tuple #[Cf n l,.int .i64 0]):=hp 1 _ rfl (by kernel_rfl);clear hp ho;rw[C2]at hQ' ⊢;dsimp only[E5,E6,List.foldl,zv,zaR]at hQ' ⊢;simp only[List.set_cons_succ,List.set_cons_zero];rw[gu]at hQ' ⊢;clear gu;go_wp2_with fail;exact C9 (hQ' _ _ ((Lw rb mb A q c K).refl _) rfl (fun h=>by cases h)) (by kernel_rfl)
  case bS=>intro o ho us W hW hp Q' hQ';obtain rfl:=Option.some.inj ho;have gu:us 5=(.tuple #[Cf n l,.int .i64 0]):=hp 1 _ rfl (by kernel_rfl);clear hp ho;rw[C2]at hQ' ⊢;dsimp only[E5,E6,List.foldl,zv,zaR]at hQ' ⊢;simp only[List.set_cons_succ,List.set_cons_zero];rw[gu]at hQ' ⊢;clear gu;go_wp2_with fail;exact C9 (hQ' _ _ ((Lw rb mb A q c K).refl _) rfl (fun h=>by cases h)) (by kernel_rfl)
 case eL=>
  intro us W hW hg;have gu:us 5=(.tuple #[Cf n l,.int .i64 0]):=hg _ (List.mem_of_getElem? (i:=1) rfl) (show (5:Nat)≠7 by decide);refine ⟨_,rfl,fun W' hW'=>?_⟩;clear hg;rw[C2];dsimp only[E6,List.foldl,zv,zaR];simp only[List.set_cons_succ,List.set_cons_zero];rw[gu];try simp only[pick,List.getElem?_cons_zero,List.getElem?_cons_succ]
  repeat (go_big_quiet_step (fail))
  refine wpQuiet_nil ?_;kernel_rfl
 case aN=>
 intro us W1 b1 hg bT cT;have cU:us 4=(.tuple #[Cf n l,.int .i64 0]):=hg _ (List.mem_of_getElem? (i:=0) rfl);have cV:us 5=(.tuple #[Cf n l,.int .i64 0]):=hg _ (List.mem_of_getElem? (i:=1) rfl);have cW:us 6=Cf n l:=hg _ (List.mem_of_getElem? (i:=2) rfl);obtain⟨p,aO,kP,fK⟩:=hg _ (List.mem_of_getElem? (i:=3) rfl);have aO:us 8=.pointer (some ⟨p,0,none⟩):=aO;have cX:=(B6y (cT _ (List.mem_of_getElem? (i:=3) rfl) rfl) aO).1;have cY:us 7=.int .i64 0:=hg _ (List.mem_of_getElem? (i:=4) rfl);rw[C2];dsimp only[E6,List.foldl,zv,zaR];simp only[List.set_cons_succ,List.set_cons_zero];rw[cU,cV,cW,aO,cY];clear hg bT cT cU cV cW aO cY;have aG:=aI.trans b1.1;have cZ:=b1.2 aJ;have dC:=bM.grown aG (fun e=>by injection e with e;exact cO e);have fL:g<w.heap.size:=eG;clear b1 aI aJ aK bM;have bU:=kP.canrt hz;have eM:rtL n l=33:=Y5 hl;have aP:w.heap.size+3≤p:=by have h1:W0.heap.size≤p:=cX;rw[bN.out]at h1;exact h1
 obtain⟨W2,aB⟩:∃z,z=C4 W1 ⟨p,0,none⟩ (Q9 n l):=⟨_,rfl⟩;have aY:Bk W2 p 37 (Q9 n l):=by rw[aB];exact kP.putrt hz hl
 have aZ:W0.grownBy W2 (some mb):=by rw[aB];exact O8 aG cX 0 _
 have bA:Rg W2 rb mb A q c K:=by rw[aB];exact HH.out.putNew cZ (by omega) (Nat.le_trans HB.out.size aG.size) 0 _
 have bW:Bk W2 g 149 (Rm (some ⟨rb,0,none⟩) n0 h0 (some kb)):=by rw[aB];exact dC.putFar (by show g≠p;omega) _
 have bB:Bk W2 (w.heap.size+1) 35 (c8 id):=by rw[aB];exact (kI.grown aG (fun e=>by injection e with e;have:=HM.out;omega)).putFar (by show w.heap.size+1≠p;omega) _
 have aQ:Bk W2 (w.heap.size+2) 86 [.slice Ak 1 ck,.slice Av nv cv]:=by rw[aB];exact (kA.grown aG (fun e=>by injection e with e;have:=HM.out;omega)).putFar (by show w.heap.size+2≠p;omega) _
 clear kI kA kC;refine C3 9 (by kernel_rfl) (by rfl) (by rfl) (fun Q' hQ'=>?_);dsimp only[E5];have aA:=Lib.hid hQ';clear hQ';go_wp2_with fail;rw[←aB];refine aA.out _ _ ⟨aZ,bA⟩ ?_;clear aA aB kP dC cZ aG bU;refine C5 (A:=?fM) [10] (by kernel_rfl) (by kernel_rfl) rfl (by kernel_rfl) (by kernel_rfl) ⟨aZ,bA⟩ (h:=fun W hW=>?eN) (hr:=?fN);case eN=>
  simp only[pick,List.getElem?_cons_zero,List.getElem?_cons_succ];repeat (go_big_quiet_step (fail))
  refine wpQuiet_nil ?_;rfl
 refine F0 (by kernel_rfl) ?_;have bC:w.grownBy W2 (some mb):=(S4 HB.out (Nat.le_refl _)).trans aZ;have dD:MapV W2 kb 0 (fun _=>none):=eH.out.kept bC (fun e=>by injection e with e;exact eJ e);have e1:=D6d aY hl;have e2:=bB.row8 hid;have e3:=aQ.at_ (i:=0) rfl;have e4:=aQ.at_ (i:=1) rfl;clear aZ;go_wp2_with fail;refine (HD.out W2 bC).mono ?_;rintro x w3 ⟨rfl,b3⟩;have dF:w.grownBy w3 (some mb):=bC.trans (S4 b3 (Nat.le_refl _));have dG:=bA.up b3;have bX:=aY.below b3 aY.lt;have bD:=bB.below b3 bB.lt;have bY:=aQ.below b3 aQ.lt;have bE:=bW.below b3 bW.lt;have bZ:=dD.below b3 (Nat.le_refl _);have aR:∀k,(Instr.lookup 54 (.map (some kb)) (A8 id) false).run Tryz.prog (w3.drewN k)=.ok (.slice none 0 0) (w3.drewN k):=fun k=>(MapV.look (bZ.below (N6 (Below.refl _ _) k) (Nat.le_refl _)) hid);have f1:=B2e bE hh0;have f2:=bD.row8 hid;clear bC dD e1 e2 e3 e4 b3 aY bB aQ bW bA;go_wp2_with fail;go_quiet (fail);obtain⟨w4,cA⟩:∃z,z=w3.drewN nq:=⟨_,rfl⟩;rw[←cA];have b4:Below w3.heap.size w3 w4:=by rw[cA];exact N6 (Below.refl _ _) nq
 have cB:w.grownBy w4 (some mb):=dF.trans (S4 b4 (Nat.le_refl _));have dI:=dG.up b4;have dJ:=bX.below b4 bX.lt;have dK:=bD.below b4 bD.lt;have cC:=bY.below b4 bY.lt;have dL:=bE.below b4 bE.lt;have dM:=bZ.below b4 (Nat.le_refl _);have e3:=cC.at_ (i:=0) rfl;clear cA b4 dF dG bX bD bY bE bZ aR f1 f2;go_wp2_with fail;refine (B5q _ _ _ _ w4).mono ?_;rintro x w5 ⟨rfl,rfl⟩;have S5:Below w5.heap.size w5 w5.drew:=(Below.refl _ _).drew;have aD:Ad w5.drew base (.slice Ak 1 ck) [k1]:=(cS.out.kept cB (Sm cS.out (HH.out.mp.notCells mb rfl))).below S5 (Nat.le_refl _);have dO:w.grownBy w5.drew (some mb):=cB.trans (S4 S5 (Nat.le_refl _));have dQ:=dI.up S5;have bF:=dJ.drew;have bG:=dK.drew;have bH:=cC.drew;have bI:=dL.drew;have dS:=dM.below S5 (Nat.le_refl _);clear e3 S5 cB dI dJ dK cC dL dM;go_wp2_with fail;refine E3 (fun W=>Bk W (w.heap.size+1) 35 (c8 id)∧Bk W p 37 (Q9 n l)∧Bk W (w.heap.size+2) 86 [.slice Ak 1 ck,.slice Av nv cv]∧∃m' h',h'.length=32∧Bk W g 149 (Rm (some ⟨rb,0,none⟩) m' h' (some kb))) (by kernel_rfl) ?_;refine C5 (A:=?fO) [0,1,2,3,4,5,6,7,8] (by kernel_rfl) (by kernel_rfl) rfl (by kernel_rfl) (by kernel_rfl) ⟨bG,bF,bH,_,_,hh0,bI⟩ (h:=fun W hW=>?eO) (hr:=?fP);case eO=>
  obtain⟨i1,i2,i3,m',h',i4,i5⟩:=hW;have f1:=B2e i5 i4;have f2:=i1.row8 hid;have f3:=i2.rowrt hl;have f4:=i3.at_ (i:=0) rfl;simp only[pick,List.getElem?_cons_zero,List.getElem?_cons_succ];repeat (go_big_quiet_step (fail))
  refine wpQuiet_nil ?_;rfl
 refine C3 9 (by kernel_rfl) (by rfl) (by rfl) (fun Q' hQ'=>?_);dsimp only[E5];have aA:=Lib.hid hQ';clear hQ';go_wp2_with fail;refine (Jv _ [k1] w5.drew (aD.hs.less (Nat.zero_le _)) (by simp) (by simp)).mono ?_;rintro x w6 ⟨gu,dT,tl,rfl,eP,eQ,eR,eS,b6⟩;rw[show [k1].length=1 from rfl]at *;have bJ:w.grownBy w6 (some mb):=dO.trans (S4 b6 (Nat.le_refl _));have eT:=dQ.up b6;have cD:=bF.below b6 bF.lt;have cE:=bG.below b6 bG.lt;have cF:=bH.below b6 bH.lt;have aS:=bI.below b6 bI.lt;have eU:=dS.below b6 (Nat.le_refl _);have aT:=aD.below b6 (Nat.le_refl _);clear eQ eR eS aD dO dQ bF bG bH bI dS eP b6;go_wp2_with fail;refine aA.out _ _ ⟨cE,cD,cF,_,_,hh0,aS⟩ ?_;clear aA;refine C5 (A:=?fQ) [10,11,12] (by kernel_rfl) (by kernel_rfl) rfl (by kernel_rfl) (by kernel_rfl) ⟨cE,cD,cF,_,_,hh0,aS⟩ (h:=fun W hW=>?eV) (hr:=?fR);case eV=>
  simp only[pick,List.getElem?_cons_zero,List.getElem?_cons_succ];repeat (go_big_quiet_step (fail))
  refine wpQuiet_nil ?_;rfl
 have aU:=D9g aS hh0;obtain⟨W7,aE⟩:∃z,z=C4 w6 ⟨g,1,none⟩ (Q9 n l):=⟨_,rfl⟩;have dU:Bk W7 g 149 (Rm (some ⟨rb,0,none⟩) n l (some kb)):=by rw[aE];exact E1v aS hh0 hl
 have eW:p≠g:=by have:=bN.out;have h1:w.heap.size+3≤p:=aP;omega
 have dW:Bk W7 p 37 (Q9 n l):=by rw[aE];exact cD.putFar (by show p≠g;exact eW) _
 have dX:Bk W7 (w.heap.size+1) 35 (c8 id):=by rw[aE];exact cE.putFar (by show w.heap.size+1≠g;omega) _
 have dY:Bk W7 (w.heap.size+2) 86 [.slice Ak 1 ck,.slice Av nv cv]:=by rw[aE];exact cF.putFar (by show w.heap.size+2≠g;omega) _
 have aH:w6.grownBy W7 (some g):=by rw[aE];exact X4 w6 g 1 _
 have aV:=aT.kept aH (D4z aT aS (by decide));have eX:=hv.newer eT hvg (Nat.le_trans hvw bJ.size) aH;have eY:MapV W7 kb 0 (fun _=>none):=eU.kept aH (fun e=>by injection e with e;exact hkg e);refine C3 13 (by kernel_rfl) (by rfl) (by rfl) (fun Q' hQ'=>?_);dsimp only[E5];have aA:=Lib.hid hQ';clear hQ';go_wp2_with fail;rw[←aE];refine aA.out _ _ ⟨dX,dW,dY,_,_,hl,dU⟩ ?_;clear aA aE aU;obtain⟨D,⟨es,dZ,cG,F,fS,fT⟩,fU⟩:=eY;obtain⟨v0,st,es1,clk1,hme,-,hst⟩:=WideElems.entry_then_store A6i.law Tryz.underlying54 (fun u=>A7b u) cG F (Kp hid);refine C3 14 (by kernel_rfl) (by rfl) (by rfl) (fun Q' hQ'=>?_);dsimp only[E5];have aA:=Lib.hid hQ';clear hQ';obtain⟨W8,bK⟩:∃z,z=ChangeMaps.setBlock W7 kb (.map es1 clk1):=⟨_,rfl⟩;have aC:W7.grownBy W8 (some kb):=by rw[bK];exact Nl W7 kb _
 have eB:W8.heap[kb]?=some (.map es1 clk1):=by rw[bK];exact B3t _ (Array.getElem?_eq_some_iff.1 cG).1
 obtain⟨es',clk',hes0,-⟩:=hst W8 (.slice (some ⟨gu,0,none⟩) 1 dT) eB;have eZ:(Instr.entryStore 54 (.map (some kb)) (.int .i64 (st:Int)) (.slice (some ⟨gu,0,none⟩) 1 dT)).run Tryz.prog W8=.ok () (ChangeMaps.setBlock W8 kb (.map es' clk')):=hes0;have eC:p≠kb:=by have:=bN.out;have h1:w.heap.size+3≤p:=aP;omega
 have cH:=dW.grown aC (fun e=>by injection e with e;exact eC e);have cI:=dX.grown aC (fun e=>by injection e with e;omega);have cJ:=dY.grown aC (fun e=>by injection e with e;omega);have cK:=dU.grown aC (fun e=>by injection e with e;exact hkg e.symm);have aW:=aV.kept aC (Sm aV ⟨_,cG,rfl⟩);have fB:=hv.newer eX hvk (Nat.le_trans hvw (Nat.le_trans bJ.size aH.size)) aC;go_wp2_with fail;rw[←bK];refine aA.out _ _ ⟨cI,cH,cJ,_,_,hl,cK⟩ ?_;clear aA bK hme hes0 hst;refine C5 (A:=?fV) [15] (by kernel_rfl) (by kernel_rfl) rfl (by kernel_rfl) (by kernel_rfl) ⟨cI,cH,cJ,_,_,hl,cK⟩ (h:=fun W hW=>?fC) (hr:=?fW);case fC=>
  simp only[pick,List.getElem?_cons_zero,List.getElem?_cons_succ];repeat (go_big_quiet_step (fail))
  refine wpQuiet_nil ?_;rfl
 obtain⟨W9,cL⟩:∃z,z=ChangeMaps.setBlock W8 kb (.map es' clk'):=⟨_,rfl⟩;have aF:W8.grownBy W9 (some kb):=by rw[cL];exact Nl W8 kb _
 have fD:=cH.grown aF (fun e=>by injection e with e;exact eC e);have fE:=cI.grown aF (fun e=>by injection e with e;omega);have eD:=cJ.grown aF (fun e=>by injection e with e;omega);have cM:=cK.grown aF (fun e=>by injection e with e;exact hkg e.symm);have aX:=aW.kept aF (Sm aW ⟨_,eB,rfl⟩);have fF:w6.heap.size≤W8.heap.size:=Nat.le_trans aH.size aC.size;have eE:=hv.newer fB hvk (Nat.le_trans hvw (Nat.le_trans bJ.size fF)) aF;refine C3 16 (by kernel_rfl) (by rfl) (by rfl) (fun Q' hQ'=>?_);dsimp only[E5];have aA:=Lib.hid hQ';clear hQ';go_wp2_with fail;rw[←cL];refine aA.out _ _ ⟨fE,fD,eD,_,_,hl,cM⟩ ?_;clear aA cL eZ;refine F0 (by kernel_rfl) ?_;have e3:=eD.at_ (i:=0) rfl;have cN:=Lib.hid aX;have hx:GrX [mb,g,kb] w W9:=(((GrX.of bJ (by simp)).trans (GrX.of aH (by simp))).trans (GrX.of aC (by simp))).trans (GrX.of aF (by simp));have HX:=Lib.hid hx;have eF:=Lib.hid cM;have fG:=Lib.hid eE;clear hx cM eE aX;go_wp2_with fail;refine (Jv _ [k1] W9 (cN.out.hs.less (Nat.zero_le _)) (by simp) (by simp)).mono ?_;rintro x w10 ⟨gz,capz,tlz,rfl,-,-,-,-,b10⟩;rw[show [k1].length=1 from rfl];go_wp2_with fail;go_ret2
 exact ⟨_,_,rfl,HX.out.trans (GrX.of (g:=mb) (S4 b10 (Nat.le_refl _)) (by simp)),fG.out.up b10,eF.out.below b10 eF.out.lt⟩
end
end
section
theorem C8e:(Tryz.prog.info? 3).map (fun i=>(i.zero,i.size,i.bytes))=some (some (.int .i64 0),1,8):=by kernel_rfl
theorem C5x:(Tryz.prog.info? 46).map (fun i=>(i.zero,i.size,i.bytes))=some (some (A8 (z8 64)),64,64):=by kernel_rfl
@[go_sem ↓ high] theorem F3e (w : World) (ρ : Operand → Value) (dst : Option Tmp) (ty : TypeId) (pos : String) (after : Array Edge) (guard : Option (Nat × Bool)) (x : Operand) :
 (execOp ρ { dst,op:=.buildSlice 31 1 #[(0,x)],type:=ty,pos,after,guard }).run Tryz.prog w=Fu 64 46 w (F2 Tryz.prog ρ { dst,op:=.buildSlice 31 1 #[(0,x)],type:=ty,pos,after,guard } w) (ρ x):=
 D1q Tryz.underlying31 C5x (by simp[A8,Value.cells]) (by decide) (by decide) w ρ dst ty pos after guard x
theorem C0f:(Tryz.prog.info? 33).map (·.size)=some 3:=by kernel_rfl
theorem A5n:Tryz.prog.underlying 33=some (.struct (I2 Tryz.prog 33)):=by kernel_rfl
def B5h (a:Int) (f:Nat):Nat:=(U8 a).toNat % (f+1)
theorem Pg (a:Int) (f:Nat):B5h a f<f+1:=Nat.mod_lt _ (Nat.succ_pos f)
theorem D5a (a:Int) {f s:Nat} (hf:f≤2) (hs:s=B5h a f):IntKind.i64.wrap ((C8 (U8 a)).tmod ((f:Int)+1))=(s:Int):=by
 have h1:=Pg a f;have h2:((U8 a).toNat:Int).tmod ((f:Int)+1)=((B5h a f:Nat):Int):=by rw[Int.tmod_eq_emod_of_nonneg (by omega)];rfl
 unfold C8;rw[h2,←hs];rw[←hs]at h1;exact IntWalk.i64_in _ (by omega)
def Oe (w:World) (base:Nat) (v:Value) (l:List (List UInt8)):Prop:=(∀k∈l,k.length=64)∧w.ownsRow base 46 64 v l.length (c8 l.flatten)
def Fz (w:World) (base:Nat) (v:Value) (l:List Int):Prop:=w.ownsRow base 3 1 v l.length (l.map (Value.int .i64))
section
variable {w w' : World} {base B : Nat} {v : Value} {l : List (List UInt8)} {z : List Int} {row : Option Nat}
theorem Oe.nil (w:World) (base:Nat):Oe w base (.slice none 0 0) []:=⟨by simp,World.ownsRow_nil w base _ _⟩
theorem Fz.nil (w:World) (base:Nat):Fz w base (.slice none 0 0) []:=World.ownsRow_nil w base _ _
theorem Oe.below (h:Oe w base v l) (hb:Below B w w') (hB:w.heap.size≤B):Oe w' base v l:=⟨h.1,Iv h.2 hb hB⟩
theorem Fz.below (h:Fz w base v z) (hb:Below B w w') (hB:w.heap.size≤B):Fz w' base v z:=Iv h hb hB
theorem Oe.kept (h:Oe w base v l) (hg:w.grownBy w' row) (hne:v.ownBlock=none∨v.ownBlock≠row):Oe w' base v l:=⟨h.1,World.ownsRow.kept h.2 hg hne⟩
theorem Fz.kept (h:Fz w base v z) (hg:w.grownBy w' row) (hne:v.ownBlock=none∨v.ownBlock≠row):Fz w' base v z:=World.ownsRow.kept h hg hne
theorem Oe.ss (h:Oe w base v l):Ss w w.heap.size v l:=by
 obtain⟨A,c,rfl,h1,h2⟩:=Be h.2;exact ⟨h.1,A,c,rfl,h1,h2,(Qt h.2).less (Nat.zero_le _)⟩
theorem Fz.ns (h:Fz w base v z):Ns w w.heap.size v z:=by
 obtain⟨A,c,rfl,h1,h2⟩:=Be h;exact ⟨A,c,rfl,h1,h2,(Qt h).less (Nat.zero_le _)⟩
theorem Oe.form (h:Oe w base v l):∃A c,v=.slice A l.length c∧l.length≤c∧c≤9223372036854775807:=Be h.2
theorem Fz.form (h:Fz w base v z):∃A c,v=.slice A z.length c∧z.length≤c∧c≤9223372036854775807:=Be h
end
def Ef (s n:Nat):List Int:=(Jt s n).map Int.ofNat
theorem Ge {w:World} {base sz n g:Nat} {T:TypeId} {v:Value} {cs:List Value} (h:w.ownsRow base T sz v n cs) (hg:g<base):v.ownBlock=none∨v.ownBlock≠some g:=by
 rcases h.2 with ⟨hv,_⟩ | ⟨g',cap,cur,hv,hb,_⟩
 ·left;simp[hv,Value.ownBlock]
 ·right
  intro e;rw[hv]at e;simp only[Value.ownBlock,Option.some.injEq]at e;omega
noncomputable def wgL (sd:List (List UInt8)) (tag:UInt8) (body:List UInt8) (s n:Nat):List (List UInt8):=(Jt s n).map fun i=>Fw (sd.getD i []) tag body
theorem C7g (s n:Nat):Ef s (n+1)=Ef s n++[((s+n:Nat):Int)]:=by unfold Ef;rw[A5m,List.map_append];rfl
theorem D1w (sd:List (List UInt8)) (tag:UInt8) (body:List UInt8) (s n:Nat):wgL sd tag body s (n+1)=wgL sd tag body s n++[Fw (sd.getD (s+n) []) tag body]:=by unfold wgL;rw[A5m,List.map_append];rfl
theorem Q1 (s n:Nat):(Ef s n).length=n:=by simp[Ef,Oa]
theorem Bx (sd:List (List UInt8)) (tag:UInt8) (body:List UInt8) (s n:Nat):(wgL sd tag body s n).length=n:=by simp[wgL,Oa]
theorem B0q {w:World} (sv:Value) (sd:List (List UInt8)) (f n:Nat) (hf:f≤2) (hn:n=3*f+1) (hsl:sd.length=n) (hsv:Hs w 0 w.heap.size sv sd) (a:Int) (tag:UInt8) (bv:Value) (body:List UInt8) (hb:By w 0 w.heap.size bv body) (hbl:body.length≤1000000)
 (s m:Nat) (hs:s=B5h a f) (hm:m=2*f+1) :
 Calls Tryz.prog 30 #[sv,.int .i64 a,.int .u8 (n8 tag),bv] w fun e w'=>∃gv gg,e=.returned (.agg #[bv,gv,gg])∧CtV w' w'.heap.size bv gv gg ⟨body,Ef s m,wgL sd tag body s m⟩∧(Fz w' w.heap.size gv (Ef s m)∧Oe w' w.heap.size gg (wgL sd tag body s m))∧Below w.heap.size w w':=by
 obtain⟨As,cs,rfl,-,-⟩:=hsv.form;obtain⟨Ab,cb,rfl,-⟩:=id hb;rw[List.length_map]at hb ⊢;rw[hsl]at hsv ⊢;obtain⟨bn,aZ⟩:∃y,y=body.length:=⟨_,rfl⟩;rw[←aZ]at hb hbl ⊢;have cK:=Lib.hid aZ;have bA:=Pg a f;rw[←hs]at bA;have cL:=Pk a;have cM:=D5a a hf hs;have h1:IntKind.i64.wrap ((n:Int)-1)=3*(f:Int):=by rw[IntWalk.i64_in _ (by omega),hn];simp
 have h2:Op.intDiv .quo .i64 (3*(f:Int)) 3=pure (.int .i64 (f:Int)):=by
  have h2:∀k:Nat,k≤2→(Op.intDiv .quo .i64 (3*(k:Int)) 3:Sem Value)=pure (.int .i64 (k:Int)):=by
   intro k hk;match k,hk with
   | 0,_=>rfl
   | 1,_=>rfl
   | 2,_=>rfl
  exact h2 f hf
 have h3:IntKind.i64.wrap ((f:Int)+1)=(f:Int)+1:=IntWalk.i64_in _ (by omega);have h4:IntKind.u64.wrap ((f:Int)+1)=(f:Int)+1:=by
  have:∀k:Nat,k≤2→IntKind.u64.wrap ((k:Int)+1)=(k:Int)+1:=by
   intro k hk;match k,hk with
   | 0,_=>rfl
   | 1,_=>rfl
   | 2,_=>rfl
  exact this f hf
 have h5:IntKind.i64.wrap (2*(f:Int))=2*(f:Int):=IntWalk.i64_in _ (by omega);have h6:IntKind.i64.wrap ((s:Int)+2*(f:Int))=(s:Int)+2*(f:Int):=IntWalk.i64_in _ (by omega);obtain⟨E,hE⟩:∃E,E=s+m:=⟨_,rfl⟩;have h7:IntKind.i64.wrap ((s:Int)+2*(f:Int)+1)=(E:Int):=by rw[IntWalk.i64_in _ (by omega)];omega
 obtain⟨W0,bB⟩:∃z,z=(w.alloc (Obj.cells #[.slice none 0 0,.slice none 0 0,.slice none 0 0] 33)).alloc (Obj.cells #[.slice Ab bn cb,.slice none 0 0,.slice none 0 0] 33):=⟨_,rfl⟩;have hL:W0=Q6 w [(33,[.slice none 0 0,.slice none 0 0,.slice none 0 0]),(33,[.slice Ab bn cb,.slice none 0 0,.slice none 0 0])]:=bB;have kR:Bk W0 w.heap.size 33 [.slice none 0 0,.slice none 0 0,.slice none 0 0]:=by rw[hL];exact E0 _ w 0 _ _ rfl
 have kC:Bk W0 (w.heap.size+1) 33 [.slice Ab bn cb,.slice none 0 0,.slice none 0 0]:=by rw[hL];exact E0 _ w 1 _ _ rfl
 have B0:Below w.heap.size w W0:=by rw[hL];exact H6 _ _
 have S0:W0.heap.size=w.heap.size+2:=by rw[hL,O7];rfl
 have HE:=Lib.hid hE;have HN:=Lib.hid hn;have HM:=Lib.hid hm;have HV:=Lib.hid hsv;have HB:=Lib.hid hb;have dL:s+m≤n:=by omega
 have cN:E≤10:=by omega
 have dM:E≤n:=by omega
 have dO:n≤7:=by omega
 clear aZ hn hm hE hs hsv hb hL;go_enter Tryz.func30,Tryz.ntmps30;go_wp2_with fail;rw[←bB];clear bB;go_loopw [12] (fun iv wr=>∃(k j:Nat) (gv gg:Value),iv=.int .i64 (k:Int)∧Hid (k=s+j)∧Hid (j≤m)∧Bk wr w.heap.size 33 [.slice none 0 0,.slice none 0 0,.slice none 0 0]∧Bk wr (w.heap.size+1) 33 [.slice Ab bn cb,gv,gg]∧Fz wr (w.heap.size+2) gv (Ef s j)∧Oe wr (w.heap.size+2) gg (wgL sd tag body s j)∧Below w.heap.size w wr∧w.heap.size+2≤wr.heap.size) (fun iv _=>E-(intOf iv).toNat)
 case atStart=>exact ⟨s,0,_,_,rfl,Lib.hid rfl,Lib.hid (Nat.zero_le _),kR,kC,Fz.nil _ _,Oe.nil _ _,B0,Nat.le_of_eq S0.symm⟩
 case round=>
  clear kR kC B0 S0;obtain⟨k,j,gv,gg,rfl,hk,hj,kR,kC,oI,oS,B,z⟩:=hrel;obtain⟨Ai,ci,rfl,-,-⟩:=oI.form;obtain⟨Ag,cg,rfl,-,-⟩:=oS.form;rw[Q1,Bx]at *;by_cases hlt:k<E
  ·have hd:decide ((k:Int)<(E:Int))=true:=decide_eq_true (by omega);have cO:decide (k<E)=true:=decide_eq_true hlt;have dQ:IntKind.i64.wrap ((k:Int)+1)=(k:Int)+1:=IntWalk.i64_in _ (by omega);have c1:=kC.at_ (i:=1) rfl;have aT:=Lib.hid oI;have aI:=Lib.hid oS;have aJ:∀u∈[Value.int .i64 (k:Int)],u.oneCell'=true:=fun u hu=>by rw[List.mem_singleton.1 hu];rfl
   have aE:wr.ownsRow (w.heap.size+2) 3 1 (.slice Ai j ci) j ((Ef s j).map (Value.int .i64)):=by have h:=oI;unfold Fz at h;rwa [Q1]at h
   have cP:j+1≤68719476736:=by have:=hj.out;have:=HM.out;omega
   clear oI oS;go_wp2_with (at_builtin;refine A8f 30 3 (.int .i64 0) 1 8 Tryz.underlying30 C8e rfl (by decide) (by decide) rfl _ _ rfl rfl aE [.int .i64 (k:Int)] rfl aJ _ rfl rfl rfl cP z ?_;intro A6 c6 w6 cQ cR bO aK bP bC;have aU:=kC.below aK (Nat.lt_succ_self _);have cS:=aU.at_ (i:=1) rfl;have cT:=aU.frozen 1);have B6:=B.trans (aK.mono (Nat.le_trans (Nat.le_succ _) (Nat.le_succ _)));have bQ:=kR.below aK (Nat.lt_succ_of_lt (Nat.lt_succ_self _));have bD:Oe w6 (w.heap.size+2) (.slice Ag j cg) (wgL sd tag body s j):=aI.out.kept bP (A3u aI.out.2 aE (by decide));obtain⟨W7,aV⟩:∃z,z=w6.setCell ⟨w.heap.size+1,1,none⟩ (.slice A6 (j+1) c6):=⟨_,rfl⟩;rw[←aV];have g7:w6.grownBy W7 (some (w.heap.size+1)):=by rw[aV];exact M6 w6 _ _ _
   have aL:Bk W7 (w.heap.size+1) 33 [.slice Ab bn cb,.slice A6 (j+1) c6,.slice Ag j cg]:=by rw[aV];exact aU.set_ 1 _
   have bE:Bk W7 w.heap.size 33 [.slice none 0 0,.slice none 0 0,.slice none 0 0]:=bQ.grown g7 (fun e=>by injection e with e;omega);have bR:Fz W7 (w.heap.size+2) (.slice A6 (j+1) c6) (Ef s (j+1)):=by
    have h:Fz w6 (w.heap.size+2) (.slice A6 (j+1) c6) (Ef s (j+1)):=by unfold Fz;rw[Q1,C7g,←hk.out,List.map_append];exact bO
    exact h.kept g7 (Ge h (Nat.lt_succ_self _))
   have bS:=bD.kept g7 (Ge bD.2 (Nat.lt_succ_self _));have B7:Below w.heap.size w W7:=B6.grown g7 B6.size (fun k e=>by cases e;omega);have z7:w.heap.size+2≤W7.heap.size:=Nat.le_trans z (Nat.le_trans aK.size g7.size);have S8:Below W7.heap.size W7 W7.drew:=(Below.refl _ _).drew;obtain⟨sk,aW⟩:∃x,sd[k]?=some x:=⟨_,List.getElem?_eq_getElem (by rw[hsl];omega)⟩;obtain⟨gs,os,rfl,cU,cV⟩:=HV.out.at_ aW;have bF:sk.length=32:=HV.out.1 sk (List.mem_of_getElem? aW);have dS:(k:Int)<(n:Int):=by omega
   have bG:wgL sd tag body s (j+1)=wgL sd tag body s j++[Fw sk tag body]:=by rw[D1w,←hk.out,List.getD_eq_getElem?_getD,aW];rfl
   obtain⟨sg,aB⟩:∃y,y=Fw sk tag body:=⟨_,rfl⟩;rw[←aB]at bG;have bT:=Lib.hid bG;have aM:sg.length=64:=by rw[aB];exact Gd _ _ _
   have cW:=Lib.hid aB;have bH:=Lib.hid bR;have bI:=Lib.hid bS;have bU:By W7.drew 0 W7.drew.heap.size (.slice Ab bn cb) body:=((HB.out.below B7).more B7.size |>.below S8).more S8.size;have bW:=Lib.hid bU;clear aV g7 aU bQ cS cT bD B6 bO aK bP bC aE aJ c1 kC kR aT aI B cQ cR aW bG aB bR bS bU;go_wp2_with fail;refine E3 (fun X=>True) (by kernel_rfl) ?_;refine C5 (A:=?dT) [0,2,3,4,6,7] (by kernel_rfl) (by kernel_rfl) rfl (by kernel_rfl) (by kernel_rfl) trivial (h:=fun X hX=>?cX) (hr:=?dU);case cX=>
    simp only[pick,List.getElem?_cons_zero,List.getElem?_cons_succ];repeat (go_big_quiet_step (fail))
    refine wpQuiet_nil ?_;rfl
   refine Bm [zv 1 43 (.slice Ag j cg),zv 5 47 (A8 sk),zv 8 50 (A8 sg),zl 9 51 46 (c8 sg)] (by kernel_rfl) (fun W hW=>trivial) ?cY ?cZ ?dC;case cY=>exact List.forall_mem_cons.2 ⟨P8 _ _ _,List.forall_mem_cons.2 ⟨P8 _ _ _,List.forall_mem_cons.2 ⟨P8 _ _ _,List.forall_mem_cons.2 ⟨zl_mono _ _ _ _,fun _ h=>by cases h⟩⟩⟩⟩
   case cZ=>
    refine List.forall_mem_cons.2 ⟨?s1,List.forall_mem_cons.2 ⟨?s5,List.forall_mem_cons.2 ⟨?s8,List.forall_mem_cons.2 ⟨?s9,fun _ h=>by cases h⟩⟩⟩⟩;case s1=>
     intro o ho us W hW hp Q' hQ';obtain rfl:=Option.some.inj ho;clear hp ho;rw[C2]at hQ' ⊢;dsimp only[E5,E6,List.foldl,zv,zl]at hQ' ⊢;simp only[List.set_cons_succ,List.set_cons_zero];have f1:=(aL.drew.below hW aL.lt).at_ (i:=2) rfl;go_wp2_with fail;exact C9 (hQ' _ _ (Below.refl _ _) rfl (fun h=>by cases h)) (by kernel_rfl)
    case s5=>intro o ho us W hW hp Q' hQ';obtain rfl:=Option.some.inj ho;clear hp ho;rw[C2]at hQ' ⊢;dsimp only[E5,E6,List.foldl,zv,zl]at hQ' ⊢;simp only[List.set_cons_succ,List.set_cons_zero];have f1:=(Bv (a:=⟨gs,os+k*32,none⟩) (C1 B7 (C1 S8 hW S8.size) B7.size) cU).trans cV;go_wp2_with fail;exact C9 (hQ' _ _ (Below.refl _ _) rfl (fun h=>by cases h)) (by kernel_rfl)
    case s8=>intro o ho us W hW hp Q' hQ';obtain rfl:=Option.some.inj ho;have aN:us 5=A8 sk:=hp 1 _ rfl (by kernel_rfl);clear hp ho;rw[C2]at hQ' ⊢;dsimp only[E5,E6,List.foldl,zv,zl]at hQ' ⊢;simp only[List.set_cons_succ,List.set_cons_zero];rw[aN]at hQ' ⊢;clear aN;go_wp2_with fail;refine (B2i sk tag _ body bF W ((bW.out.below hW).more hW.size) (by rw[←cK.out];exact hbl)).mono ?_;rintro e W2 ⟨rfl,b2⟩;rw[←cW.out];go_wp2_with fail;exact C9 (hQ' _ _ b2 rfl (fun h=>by cases h)) (by kernel_rfl)
    case s9=>intro o ho us W hW hp Q' hQ';obtain rfl:=Option.some.inj ho;have aO:us 8=A8 sg:=hp 2 _ rfl (by kernel_rfl);clear hp ho;rw[C2]at hQ' ⊢;dsimp only[E5,E6,List.foldl,zv,zl]at hQ' ⊢;simp only[List.set_cons_succ,List.set_cons_zero];rw[aO]at hQ' ⊢;clear aO;go_wp2_with fail;exact C9 (hQ' _ _ ((Below.refl _ _).alloc (Nat.le_refl _) _) ⟨_,rfl,Bk.new W _ (c8 sg)⟩ (fun h=>by cases h)) (by kernel_rfl)
   case dC=>
   intro us W1 b1 hg bJ dD;have bX:us 1=.slice Ag j cg:=hg _ (List.mem_of_getElem? (i:=0) rfl);have aN:us 5=A8 sk:=hg _ (List.mem_of_getElem? (i:=1) rfl);have aO:us 8=A8 sg:=hg _ (List.mem_of_getElem? (i:=2) rfl);obtain⟨p,aX,K9⟩:=hg _ (List.mem_of_getElem? (i:=3) rfl);have aX:us 9=.slice (some ⟨p,0,none⟩) 1 1:=aX;have K9:Bk W1 p 46 (c8 sg):=K9;rw[C2];dsimp only[E6,List.foldl,zv,zl];simp only[List.set_cons_succ,List.set_cons_zero];rw[bX,aN,aO,aX];clear hg bJ dD bX aN aO aX;have bb:=C1 S8 b1 S8.size;have bY:=aL.below bb aL.lt;have bZ:=bE.below bb bE.lt;have aF:=Lib.hid (bH.out.below bb (Nat.le_refl _));have cA:=bI.out.below bb (Nat.le_refl _);have B8:=C1 B7 bb B7.size;have cB:w.heap.size+2≤W1.heap.size:=Nat.le_trans z7 bb.size;have cC:Hid (Rd W1 0 W1.heap.size (some ⟨p,0,none⟩) (c8 sg)):=Lib.hid (.inr ⟨p,0,rfl,Nat.zero_le _,K9.lt,fun j x hj=>by rw[Nat.zero_add];exact K9.at_ hj⟩);have cD:Hid (∀x∈c8 sg,x.oneCell'=true):=Lib.hid (by intro x hx;obtain⟨y,_,rfl⟩:=List.mem_map.1 hx;rfl);have aG:=Lib.hid cA;clear K9 bb b1 aL bE B7 S8 bW cA;have aH:W1.ownsRow (w.heap.size+2) 46 64 (.slice Ag j cg) j (c8 (wgL sd tag body s j).flatten):=by
    have:=aG.out.2;rwa [Bx]at this
   refine C3 10 (by kernel_rfl) (by rfl) (by rfl) (fun Q' hQ'=>?_);dsimp only[E5];have aP:=Lib.hid hQ';clear hQ';go_wp2_with (at_builtin;refine D1h 31 (A8 (z8 64)) 64 Tryz.underlying31 C5x (by simp[A8,Value.cells]) (by decide) (by decide) rfl _ _ rfl rfl (n:=j) (base:=w.heap.size+2) (xs:=c8 (wgL sd tag body s j).flatten) aH (some ⟨p,0,none⟩) 1 1 rfl (c8 sg) (by simp[aM]) 0 _ cC.out cD.out (by omega) cB ?_;intro A9 c9 w9 bK bL cE aQ cF bM);have aY:=bY.below aQ (Nat.lt_succ_self _);have cG:=bZ.below aQ (Nat.lt_succ_of_lt (Nat.lt_succ_self _));have cH:Oe w9 (w.heap.size+2) (.slice A9 (j+1) c9) (wgL sd tag body s (j+1)):=by
    refine ⟨fun q hq=>?_,?_⟩
    ·rw[bT.out]at hq;rcases List.mem_append.1 hq with hq | hq
     ·exact aG.out.1 q hq
     ·rw[List.mem_singleton.1 hq];exact aM
    ·rw[Bx,bT.out];have e:c8 (wgL sd tag body s j++[sg]).flatten=c8 (wgL sd tag body s j).flatten++c8 sg:=by simp[c8]
     rw[e];exact cE
   have cI:Fz w9 (w.heap.size+2) (.slice A6 (j+1) c6) (Ef s (j+1)):=aF.out.kept cF (A3u aF.out aH (by decide));have B9:=B8.trans (aQ.mono (Nat.le_trans (Nat.le_succ _) (Nat.le_succ _)));have cJ:w.heap.size+2≤w9.heap.size:=Nat.le_trans cB aQ.size;have aR:=Lib.hid cH;have aS:=Lib.hid cI;clear cE aQ cF bM aH cC cD cH cI bY bZ B8 aG aF bK bL;refine aP.out _ _ trivial ?_;clear aP;refine C5 (A:=?dW) [11] (by kernel_rfl) (by kernel_rfl) rfl (by kernel_rfl) (by kernel_rfl) trivial (h:=fun X hX=>?dF) (hr:=?dX);case dF=>
    simp only[pick,List.getElem?_cons_zero,List.getElem?_cons_succ];repeat (go_big_quiet_step (fail))
    refine wpQuiet_nil ?_;rfl
   have dG:=aY.at_ (i:=2) rfl;have dI:=aY.frozen 2;obtain⟨Wa,aD⟩:∃z,z=w9.setCell ⟨w.heap.size+1,2,none⟩ (.slice A9 (j+1) c9):=⟨_,rfl⟩;have ga:w9.grownBy Wa (some (w.heap.size+1)):=by rw[aD];exact M6 w9 _ _ _
   have dJ:Bk Wa (w.heap.size+1) 33 [.slice Ab bn cb,.slice A6 (j+1) c6,.slice A9 (j+1) c9]:=by rw[aD];exact aY.set_ 2 _
   have bN:Bk Wa w.heap.size 33 [.slice none 0 0,.slice none 0 0,.slice none 0 0]:=cG.grown ga (fun e=>by injection e with e;omega);have aC:=Lib.hid (aS.out.kept ga (Ge aS.out (Nat.lt_succ_self _)));have aA:=Lib.hid (aR.out.kept ga (Ge aR.out.2 (Nat.lt_succ_self _)));have Ba:Below w.heap.size w Wa:=B9.grown ga B9.size (fun k e=>by cases e;omega);have dK:w.heap.size+2≤Wa.heap.size:=Nat.le_trans cJ ga.size;refine C3 12 (by kernel_rfl) (by rfl) (by rfl) (fun Q' hQ'=>?_);dsimp only[E5];have aP:=Lib.hid hQ';clear hQ';go_wp2_with fail;rw[←aD];refine aP.out _ _ trivial ?_;clear aP aD dG dI aY cG B9 cJ ga;refine F0 (by kernel_rfl) ?_;go_wp2_with fail;go_roundw;case rel=>exact ⟨k+1,j+1,_,_,by simp,Lib.hid (by rw[hk.out,Nat.add_assoc]),Lib.hid (by have:=hk.out;have:=HE.out;omega),bN,dJ,aC.out,aA.out,Ba,dK⟩
   case measure=>simp[intOf];omega
  ·have hd:decide ((k:Int)<(E:Int))=false:=decide_eq_false (by omega);have cO:decide (k<E)=false:=decide_eq_false hlt;obtain rfl:j=m:=by have:=hk.out;have:=hj.out;have:=HE.out;omega
   have c0:=kC.at_ (i:=0) rfl;have c1:=kC.at_ (i:=1) rfl;have c2:=kC.at_ (i:=2) rfl;have aT:=Lib.hid oI;have aI:=Lib.hid oS;have r0:=kR.at_ (i:=0) rfl;have r1:=kR.at_ (i:=1) rfl;have r2:=kR.at_ (i:=2) rfl;have q0:=kR.frozen 0;have q1:=kR.frozen 1;have q2:=kR.frozen 2;obtain⟨Wa,aD⟩:∃z,z=((wr.setCell ⟨w.heap.size,0,none⟩ (.slice Ab bn cb)).setCell ⟨w.heap.size,1,none⟩ (.slice Ai j ci)).setCell ⟨w.heap.size,2,none⟩ (.slice Ag j cg):=⟨_,rfl⟩;have bN:Bk Wa w.heap.size 33 [.slice Ab bn cb,.slice Ai j ci,.slice Ag j cg]:=by rw[aD];exact ((kR.set_ 0 _).set_ 1 _).set_ 2 _
   have ga:wr.grownBy Wa (some w.heap.size):=by rw[aD];exact ((M6 wr _ _ _).trans (M6 _ _ _ _)).trans (M6 _ _ _ _)
   have aC:=Lib.hid (aT.out.kept ga (Ge aT.out (by omega)));have aA:=Lib.hid (aI.out.kept ga (Ge aI.out.2 (by omega)));have Ba:Below w.heap.size w Wa:=B.grown ga B.size (fun k e=>by cases e;exact Nat.le_refl _);clear oI oS;go_wp2_with fail;rw[←aD];exact bodyPost_ret (Ho rfl (H9.row bN rfl _ A5n rfl C0f)) rfl ⟨_,_,rfl,⟨(HB.out.below Ba).more Ba.size,aC.out.ns,aA.out.ss⟩,⟨Sp aC.out (by omega),aA.out.1,Sp aA.out.2 (by omega)⟩,Ba⟩
end
section
def msc (k:UInt8) (q:Int) (h:List UInt8):List Value:=.int .u8 (n8 k) :: .int .i64 0 :: .int .i64 0 :: .int .i64 q::(c8 h++([.slice none 0 0,.slice none 0 0,.slice none 0 0,.slice none 0 0,.slice none 0 0,.slice none 0 0,.slice none 0 0]++c8 (z8 64)))
def msV (k:UInt8) (q:Int) (h:List UInt8):Value:=.agg (msc k q h).toArray
theorem Ys {k:UInt8} {q:Int} {h:List UInt8} (hh:h.length=32):(msc k q h).length=107:=by simp[msc,hh]
theorem D4p:((Tryz.prog.info? 100).bind (·.zero))=some (msV 0 0 (z8 32)):=by kernel_rfl
theorem C1j:Tryz.prog.underlying 100=some (.struct (I2 Tryz.prog 100)):=by kernel_rfl
theorem C4b (w:World):(Z3 (I2 Tryz.prog 100)).run Tryz.prog w=.ok #[(0,1),(1,1),(2,1),(3,1),(4,32),(36,1),(37,3),(40,1),(41,1),(42,1),(43,64)] w:=by kernel_rfl
theorem E0b (q:Int) (h:List UInt8) (hh:h.length=32) (w:World):(Instr.build 100 #[(0,.int .u8 5),(3,.int .i64 q),(4,A8 h)]).run Tryz.prog w=.ok (msV 5 q h) w:=by
 have aA:(msV 0 0 (z8 32)).cells.toList=msc 0 0 (z8 32):=rfl;have h1:=I3 C1j D4p w (C4b w) #[(0,.int .u8 5),(3,.int .i64 q),(4,A8 h)] [(0,[.int .u8 5]),(3,[.int .i64 q]),(4,c8 h)] (by
  rw[aA,Ys (I1 32)];exact ⟨rfl,rfl,by simp,rfl,rfl,by simp,by simp[hh],rfl,by simp[hh],trivial⟩)
 refine h1.trans (congrArg (fun (cs:List Value)=>Result.ok (Value.agg cs.toArray) w) ?_);rw[aA];simp[Bg,N9,hh,List.take_append,List.drop_append,List.drop_eq_nil_of_le,List.take_of_length_le,msc,c8];rfl
open Classical in
noncomputable def D5g (w:World) (raw:Result Next) (k x y:Value):Result Next:=if h:∃p:Int×List UInt8,p.2.length=32∧k=.int .u8 5∧x=.int .i64 p.1∧y=A8 p.2 then .ok (.value (msV 5 h.choose.1 h.choose.2)) w else raw
@[go_sem] theorem F3x (w : World) (raw : Result Next) (q : Int) (l : List UInt8) (hl : l.length = 32) : D5g w raw (.int .u8 5) (.int .i64 q) (A8 l) = .ok (.value (msV 5 q l)) w := by
 have h:∃p:Int×List UInt8,p.2.length=32∧Value.int .u8 5=.int .u8 5∧Value.int .i64 q=.int .i64 p.1∧A8 l=A8 p.2:=⟨(q,l),hl,rfl,rfl,rfl⟩;unfold D5g;rw[dif_pos h];obtain⟨_,_,h1,h2⟩:=h.choose_spec;generalize h.choose=p at *;injection h1 with _ h1;unfold A8 at h2;injection h2 with h2;have h2:=congrArg Array.toList h2;rw[h1,(List.map_inj_right (fun x y h=>Ts h)).1 h2]
@[go_sem] theorem F2c (t : TypeId) (w : World) (raw : Result Next) (k : UInt8) (q : Int) (h : List UInt8) : Jx t w raw (msV k q h) = .ok (.value (.pointer (some ⟨w.heap.size, 0, none⟩))) (w.alloc (.cells (msc k q h).toArray t)) := rfl
section
variable (w : World) (ρ : Operand → Value) (dst : Option Tmp) (ty : TypeId) (pos : String) (after : Array Edge) (guard : Option (Nat × Bool)) (x y : Operand)
@[go_sem ↓ high] theorem E4f (z : Operand) :
 (execOp ρ { dst,op:=.build 100 #[(0,x),(3,y),(4,z)],type:=ty,pos,after,guard }).run Tryz.prog w=D5g w (F2 Tryz.prog ρ { dst,op:=.build 100 #[(0,x),(3,y),(4,z)],type:=ty,pos,after,guard } w) (ρ x) (ρ y) (ρ z):=by
 generalize h0:ρ x=a;generalize h1:ρ y=b;generalize h2:ρ z=c;unfold D5g;split
 ·rename_i h
  obtain⟨hl,e1,e2,e3⟩:=h.choose_spec;generalize h.choose=p at *;refine E9 w ρ dst ty pos after guard _ _ _ ?_;simp only[List.map_toArray,List.map_cons,List.map_nil,h0,h1,h2,e1,e2,e3];exact E0b _ _ hl w
 ·rfl
@[go_sem ↓ high] theorem F5n:RB' 100:=BX' _
end
section
variable {w w' : World} {g : Nat} {t : TypeId} {q : Int} {h : List UInt8} {k : UInt8}
theorem B8z (K:Bk w g t (msc k q h)):w.cell? ⟨g,0,none⟩=some (.int .u8 (n8 k)):=K.at_ rfl
theorem E2s (K:Bk w g t (msc k q h)):w.cell? ⟨g,3,none⟩=some (.int .i64 q):=K.at_ rfl
theorem D3m (K:Bk w g t (msc k q h)) (hh:h.length=32):By w 0 w.heap.size (.slice (some ⟨g,4,none⟩) 32 32) h:=by
 refine By.of_row ?_ K.lt (by decide);rw[K.rowMid 4 32 (by rw[Ys hh];decide)];simp[msc,hh,List.take_append,List.take_of_length_le]
end
theorem E2u (q:Int) (w:World):Calls Tryz.prog 75 #[.int .i64 q] w fun e w'=>∃u,e=.returned u∧I5 w' w.heap.size u (J3 (U8 q))∧Below w.heap.size w w':=by
 have hv:=Pk q;go_enter Tryz.func75,Tryz.ntmps75;go_wp2_with fail;refine (B2p (U8 q) w).mono ?_;rintro e w1 ⟨u,rfl,hu,b⟩;go_wp2_with fail;go_ret;exact ⟨_,rfl,hu,b⟩
theorem C3n (q:Int) (h:List UInt8) (hh:h.length=32) (w:World):Calls Tryz.prog 31 #[msV 5 q h] w fun e w'=>∃u,e=.returned u∧I5 w' w.heap.size u (J3 (U8 q)++h)∧Below w.heap.size w w':=by
 obtain⟨W0,aA⟩:∃z,z=w.alloc (Obj.cells (msc 5 q h).toArray 100):=⟨_,rfl⟩;have kM:Bk W0 w.heap.size 100 (msc 5 q h):=by rw[aA];exact Bk.new w _ _
 have B0:Below w.heap.size w W0:=by rw[aA];exact (Below.refl _ _).alloc (Nat.le_refl _) _
 have f1:=B8z kM;have f2:=E2s kM;have n5:n8 (5:UInt8)=5:=rfl;rw[n5]at f1;rw[aA]at f1 f2;go_enter Tryz.func31,Tryz.ntmps31;go_wp2_with fail;rw[←aA];have S0:W0.heap.size=w.heap.size+1:=by rw[aA];simp
 clear aA f1 f2;refine (E2u q W0).mono ?_;rintro e w1 ⟨u,rfl,hu,b1⟩;have aJ:=kM.below b1 kM.lt;have B1:=C1 B0 b1 B0.size;have hy:=hu.up;have z1:w.heap.size+1≤w1.heap.size:=by rw[←S0];exact b1.size
 have b8:(J3 (U8 q)).length=8:=Ic _;have HY:=Lib.hid hy;obtain⟨X,hX⟩:∃x,x=J3 (U8 q):=⟨_,rfl⟩;rw[←hX]at HY b8;have aK:=Lib.hid hX;clear hu hy kM b1 S0 B0 hX;go_wp2_with (first | (at_builtin;refine Ud _ _ _ _ rfl _ _ rfl rfl (I5.nil w1 (w.heap.size+1)) _ rfl X 0 _ HY.out (by simp[b8]) z1 ?_;intro A2 c2 w2 aL aM aE aB aN aC;have aF:=aJ.below aB (Nat.lt_succ_self _);have f1:=B8z aF;rw[n5]at f1;have z2:=Nat.le_trans z1 aB.size;have aO:Hid (I5 w2 (w.heap.size+1) (.slice A2 8 c2) X):=Lib.hid (by simpa [b8] using aE);have aG:=D3m aF hh;have aP:=Lib.hid aG;clear aE aL aM aN aC aG) | (at_builtin;refine Ud _ _ _ _ rfl _ _ rfl rfl aO.out _ rfl h 0 _ aP.out (by simp[b8,hh]) z2 ?_;intro A3 c3 w3 aQ aR aH aI aS aD;have z3:=Nat.le_trans z2 aI.size;have aT:Hid (I5 w3 (w.heap.size+1) (.slice A3 40 c3) (X++h)):=Lib.hid (by simpa [b8,hh] using aH);clear aH aQ aR aS aD));go_ret;rw[←aK.out];exact ⟨_,rfl,aT.out.less (Nat.le_succ _),(B1.trans (aB.mono (Nat.le_succ _))).trans (aI.mono (Nat.le_succ _))⟩
theorem Re {w:World} (sv:Value) (sd:List (List UInt8)) (f n:Nat) (hf:f≤2) (hn:n=3*f+1) (hsl:sd.length=n) (hsv:Hs w 0 w.heap.size sv sd) (a q:Int) (h:List UInt8) (hh:h.length=32)
 (s m:Nat) (hs:s=B5h a f) (hm:m=2*f+1) :
 Calls Tryz.prog 8 #[sv,.int .i64 a,.int .i64 q,A8 h] w fun e w'=>∃bv gv gg,e=.returned (.agg #[bv,gv,gg])∧CtV w' w'.heap.size bv gv gg ⟨J3 (U8 q)++h,Ef s m,wgL sd 5 (J3 (U8 q)++h) s m⟩∧Below w.heap.size w w':=by
 obtain⟨As,cs,rfl,-,-⟩:=hsv.form;rw[hsl]at hsv ⊢;have HV:=Lib.hid hsv;have HN:=Lib.hid hn;have HS:=Lib.hid hs;have HM:=Lib.hid hm;clear hsv hn hs hm;obtain⟨W0,aB⟩:∃z,z=(w.alloc (Obj.cells (c8 h).toArray 35)).alloc (Obj.cells #[.slice none 0 0,.slice none 0 0,.slice none 0 0] 33):=⟨_,rfl⟩;have hL:W0=Q6 w [(35,c8 h),(33,[.slice none 0 0,.slice none 0 0,.slice none 0 0])]:=aB;have kH:Bk W0 w.heap.size 35 (c8 h):=by rw[hL];exact E0 _ w 0 _ _ rfl
 have kR:Bk W0 (w.heap.size+1) 33 [.slice none 0 0,.slice none 0 0,.slice none 0 0]:=by rw[hL];exact E0 _ w 1 _ _ rfl
 have B0:Below w.heap.size w W0:=by rw[hL];exact H6 _ _
 have r1:=kH.row8 hh;rw[aB]at r1;go_enter Tryz.func8,Tryz.ntmps8;go_wp2_with fail;rw[←aB];clear aB r1 hL;refine (C3n q h hh W0).mono ?_;rintro e w1 ⟨u,rfl,hu,b1⟩;have aD:=kR.below b1 kR.lt;have B1:=C1 B0 b1 B0.size;have hy:=hu.up;have HY:=Lib.hid hy;obtain⟨Au,cu,rfl,-,-⟩:=hu.form;obtain⟨X,hX⟩:∃x,x=J3 (U8 q)++h:=⟨_,rfl⟩;have aC:X.length=40:=by rw[hX];simp[hh]
 rw[←hX]at HY;have aF:(J3 (U8 q)++h).length=40:=by rw[←hX];exact aC
 rw[aC]at HY;rw[aF];have aI:=Lib.hid hX;rw[←hX,aC]at hu;have HU:=Lib.hid hu;have aG:w.heap.size+1<W0.heap.size:=kR.lt;have S1:=Nat.lt_of_lt_of_le aG b1.size;clear hu hy kR kH b1 B0 hX aF;go_wp2_with fail;refine (B0q _ sd f n hf HN.out hsl ((HV.out.below B1).more B1.size) a 5 _ X HY.out (by rw[aC];decide) s m HS.out HM.out).mono ?_;rintro e w2 ⟨gv,gg,rfl,hx,⟨oI,oS⟩,b2⟩;have aA:=aD.below b2 aD.lt;have B2:=C1 B1 b2 B1.size;obtain⟨_,_,A2,c2,A3,c3,-,e2,e3⟩:=hx.form;rw[Q1]at e2;rw[Bx]at e3;subst e2 e3;have HX:=Lib.hid hx;have r0:=aA.at_ (i:=0) rfl;have r1:=aA.at_ (i:=1) rfl;have r2:=aA.at_ (i:=2) rfl;have q0:=aA.frozen 0;have q1:=aA.frozen 1;have q2:=aA.frozen 2;obtain⟨Wa,aE⟩:∃z,z=((w2.setCell ⟨w.heap.size+1,0,none⟩ (.slice Au 40 cu)).setCell ⟨w.heap.size+1,1,none⟩ (.slice A2 m c2)).setCell ⟨w.heap.size+1,2,none⟩ (.slice A3 m c3):=⟨_,rfl⟩;have aJ:Bk Wa (w.heap.size+1) 33 [.slice Au 40 cu,.slice A2 m c2,.slice A3 m c3]:=by rw[aE];exact ((aA.set_ 0 _).set_ 1 _).set_ 2 _
 have ga:w2.grownBy Wa (some (w.heap.size+1)):=by rw[aE];exact ((M6 w2 _ _ _).trans (M6 _ _ _ _)).trans (M6 _ _ _ _)
 have Ba:Below w.heap.size w Wa:=B2.grown ga B2.size (fun k e=>by cases e;exact Nat.le_succ _);have aH:CtV Wa Wa.heap.size (.slice Au 40 cu) (.slice A2 m c2) (.slice A3 m c3) ⟨X,Ef s m,wgL sd 5 X s m⟩:=by have o8:=HU.out.below b2 (Nat.le_refl _);exact ⟨(o8.kept ga (Ge o8 aG)).up,(oI.kept ga (Ge oI S1)).ns,(oS.kept ga (Ge oS.2 S1)).ss⟩
 have aK:=Lib.hid aH;clear hx aD B1 b2 aH oI oS HU;go_wp2_with fail;rw[←aE,←aI.out];exact bodyPost_ret (Ho rfl (H9.row aJ rfl _ A5n rfl C0f)) rfl ⟨_,_,_,rfl,aK.out,Ba⟩
end
end Go.Proofs.YtdfpoofbgjilgaaGreat
