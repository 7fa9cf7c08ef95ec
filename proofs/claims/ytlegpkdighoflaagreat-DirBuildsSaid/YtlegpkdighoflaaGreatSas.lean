/- A part of the proof of DirBuilds. -/
import Derived.Test.YtlegpkdighoflaaGreatSar
set_option linter.unusedVariables false
set_option linter.unusedSimpArgs false
set_option maxRecDepth 100000
set_option maxHeartbeats 40000000
namespace Go.Proofs.YtlegpkdighoflaaGreat
open Go Go.RowKit Sh
def Be:Nat→Pn→Pn
 | 0,p=>p
 | q+1,p=>Gm (Be q p)
theorem Cx {p:Pn} (hp:p.Ok):∀q,(Be q p).Ok
 | 0=>hp
 | q+1=>Fc _
def Z6 (n:List UInt8) (p:Pn) (m:List UInt8):Nat→Pn
 | 0=>Q4 (J1 C3 F0) 0
 | i+1=>X6 (X6 (Be 4 (Z6 n p m i)) (Q4 (J1 C3 F0) (dg n (63-i))) F0) (Q4 (J1 p F0) (dg m (63-i))) F0
theorem Dc (n:List UInt8) (p:Pn) (m:List UInt8):∀i,(Z6 n p m i).Ok
 | 0=>(Y7 Ae F0).at 0
 | i+1=>Db _ _ _
def Ih (n:List UInt8) (p:Pn) (m:List UInt8):Pn:=Z6 n p m 64
theorem C2w (n:List UInt8) (p:Pn) (m:List UInt8):(Ih n p m).Ok:=Dc _ _ _ _
def Zt:Nat→Pn→Pn
 | 0,p=>p
 | q+1,p=>B1w (Zt q p) (Zt q p)
theorem C6s (n:List UInt8) (p:Pn) (mm:List UInt8) (hn:n.length=32) (hp:p.Ok) (hmm:mm.length=32) (w:World):Calls Tryz.prog 116 #[A8 n,J7 p.row,A8 mm] w fun e w'=>e=.returned (J7 (Ih n p mm).row)∧Below w.heap.size w w':=by
 have lA:=hp.row;have lB:=Ae.row;obtain⟨W0,jD⟩:∃z,z=((((w.alloc (Obj.cells (c8 n).toArray 23)).alloc (Obj.cells (C7 p.row).toArray 140)).alloc (Obj.cells (c8 mm).toArray 23)).alloc (Obj.cells (C7 (J8 20)).toArray 140)):=⟨_,rfl⟩;have hL:W0=Q5 w [(23,(c8 n)),(140,(C7 p.row)),(23,(c8 mm)),(140,(C7 (J8 20)))]:=jD;have B0:Below w.heap.size w W0:=by rw[hL];exact J9 _ _
 have eX:Bk W0 (w.heap.size) 23 (c8 n):=by rw[hL];exact F9 _ w 0 _ _ rfl
 have eY:Bk W0 (w.heap.size+1) 140 (C7 p.row):=by rw[hL];exact F9 _ w 1 _ _ rfl
 have eZ:Bk W0 (w.heap.size+2) 23 (c8 mm):=by rw[hL];exact F9 _ w 2 _ _ rfl
 have fB:Bk W0 (w.heap.size+3) 140 (C7 (J8 20)):=by rw[hL];exact F9 _ w 3 _ _ rfl
 have z0:w.heap.size+4≤W0.heap.size:=by rw[hL,H9];simp
 have kN:W0.heap.size=w.heap.size+4:=by rw[hL,H9];rfl
 clear hL;go_enter Tryz.func116,Tryz.ntmps116;go_wp2_with fail;rw[←jD];clear jD kN;refine (Vn W0).mono ?_;rintro e W1 ⟨rfl,b2⟩;have B1:=C0 B0 b2 B0.size;have z1:=Nat.le_trans z0 b2.size;have fC:=eX.below b2 eX.lt;have fD:=eY.below b2 eY.lt;have fE:=eZ.below b2 eZ.lt;have fF:=fB.below b2 fB.lt;clear b2 B0 z0 eX eY eZ fB;obtain⟨V3,dC⟩:∃z,z=W1.alloc (Obj.cells (C7 (J8 5)).toArray 138):=⟨_,rfl⟩;have fG:W1.heap.size=W1.heap.size:=rfl;have bQ:Bk V3 (W1.heap.size) 138 (C7 (J8 5)):=by rw[dC,←fG];exact Bk.new W1 _ _
 have dO:Bk V3 (w.heap.size) 23 (c8 n):=by rw[dC];exact fC.alloc _
 have dQ:Bk V3 (w.heap.size+1) 140 (C7 p.row):=by rw[dC];exact fD.alloc _
 have dS:Bk V3 (w.heap.size+2) 23 (c8 mm):=by rw[dC];exact fE.alloc _
 have dT:Bk V3 (w.heap.size+3) 140 (C7 (J8 20)):=by rw[dC];exact fF.alloc _
 have jZ:Below w.heap.size w V3:=by rw[dC];exact B1.alloc B1.size _
 have bR:w.heap.size<W1.heap.size:=by rw[←fG];exact fC.lt
 have bS:w.heap.size+1<W1.heap.size:=by rw[←fG];exact fD.lt
 have bT:w.heap.size+2<W1.heap.size:=by rw[←fG];exact fE.lt
 have bU:w.heap.size+3<W1.heap.size:=by rw[←fG];exact fF.lt
 have gR:w.heap.size+4≤W1.heap.size:=by rw[←fG];exact Nat.le_trans z1 (Nat.le_refl _)
 clear fG;obtain⟨V4,dK⟩:∃z,z=C9 V3 ⟨W1.heap.size,0,none⟩ (C7 F0):=⟨_,rfl⟩;have aL:Bk V4 (W1.heap.size) 138 (C7 F0):=by rw[dK];exact Bk.put64 (bQ) ((show (J8 5).length=5 from by simp)) (O7)
 have aX:Bk V4 (w.heap.size) 23 (c8 n):=by rw[dK];exact dO.putFar (p:=⟨W1.heap.size,0,none⟩) (by show w.heap.size≠W1.heap.size;omega) _
 have aN:Bk V4 (w.heap.size+1) 140 (C7 p.row):=by rw[dK];exact dQ.putFar (p:=⟨W1.heap.size,0,none⟩) (by show w.heap.size+1≠W1.heap.size;omega) _
 have aY:Bk V4 (w.heap.size+2) 23 (c8 mm):=by rw[dK];exact dS.putFar (p:=⟨W1.heap.size,0,none⟩) (by show w.heap.size+2≠W1.heap.size;omega) _
 have aZ:Bk V4 (w.heap.size+3) 140 (C7 (J8 20)):=by rw[dK];exact dT.putFar (p:=⟨W1.heap.size,0,none⟩) (by show w.heap.size+3≠W1.heap.size;omega) _
 have jE:Below w.heap.size w V4:=by rw[dK];exact C1 jZ (by show w.heap.size≤W1.heap.size;omega) _
 have dU:E8 V3 ⟨W1.heap.size,0,none⟩ 5=true:=Bk.can64 (bQ) ((show (J8 5).length=5 from by simp));rw[dC]at dU;have bC:F0.length=5:=O7;go_wp2_with fail;rw[←dC,←dK];clear dU bC;obtain⟨p5,jF⟩:∃g,g=W1.heap.size:=⟨_,rfl⟩;rw[←jF]at aL bR bS bT bU gR;try rw[←jF]
 have jB:w.heap.size+4≤V4.heap.size:=by have hz:=z1;rw[dK,dC];first | (simp;omega) | (simp[World.setCell];omega)
 clear dC dK jF fC fD fE fF B1 z1 dO dQ dS dT bQ jZ;have S6:Below V4.heap.size V4 V4.drew:=(Below.refl _ _).drew;refine F2 (fun W=>Bk W (w.heap.size+1) 140 (C7 p.row)∧Bk W (p5) 138 (C7 F0)) (by kernel_rfl) ?_;refine C6 (A:=?lC) [1,3,4] (by kernel_rfl) (by kernel_rfl) rfl (by kernel_rfl) (by kernel_rfl) ⟨(aN.drew),(aL.drew)⟩ (h:=fun W hW=>?kO) (hr:=?lD);case kO=>
  have f1:=Bk.row64 (n:=5) (hW.2) (O7);have f3:=Bk.row64 (n:=20) (hW.1) (hp.row);simp only[pick,List.getElem?_cons_zero,List.getElem?_cons_succ];repeat (go_big_quiet_step (fail))
  refine wpQuiet_nil ?_;rfl
 refine N9 [zv 0 13 (J7 C3.row),zv 2 15 (J7 (Pl (J1 C3 F0))),zv 5 18 (J7 (Pl (J1 p F0))),za 6 8 177 (C7 (J8 320)),za 7 9 177 (C7 (J8 320))] (by kernel_rfl) (fun W hW=>⟨(aN.drew.below hW aN.drew.lt),(aL.drew.below hW aL.drew.lt)⟩) ?gS ?gT ?gU;case gS=>exact (List.forall_mem_cons.2 ⟨H7 _ _ _,(List.forall_mem_cons.2 ⟨H7 _ _ _,(List.forall_mem_cons.2 ⟨H7 _ _ _,(List.forall_mem_cons.2 ⟨Ir _ _ _ _,(List.forall_mem_cons.2 ⟨Ir _ _ _ _,(fun _ h=>by cases h)⟩)⟩)⟩)⟩)⟩)
 case gT=>
  refine (List.forall_mem_cons.2 ⟨?jG,(List.forall_mem_cons.2 ⟨?jH,(List.forall_mem_cons.2 ⟨?jI,(List.forall_mem_cons.2 ⟨?jJ,(List.forall_mem_cons.2 ⟨?jK,(fun _ h=>by cases h)⟩)⟩)⟩)⟩)⟩);case jG=>
   intro o ho us W hW hp Q' hQ';obtain rfl:=Option.some.inj ho;clear hp ho;rw[C2]at hQ' ⊢;dsimp only[E4,E0,List.foldl,zv,za]at hQ' ⊢;simp only[List.set_cons_succ,List.set_cons_zero];go_wp2_with fail;refine (Om W).mono ?_;rintro e W2 ⟨rfl,b2⟩;go_wp2_with fail;exact C5 (hQ' _ _ b2 rfl (fun h=>by cases h)) (by kernel_rfl)
  case jH=>intro o ho us W hW hp Q' hQ';obtain rfl:=Option.some.inj ho;have bV:us 0=(J7 C3.row):=hp 0 _ rfl (by kernel_rfl);clear hp ho;rw[C2]at hQ' ⊢;dsimp only[E4,E0,List.foldl,zv,za]at hQ' ⊢;simp only[List.set_cons_succ,List.set_cons_zero];rw[bV]at hQ' ⊢;clear bV;go_wp2_with fail;refine (Zi C3 F0 Ae O7 W).mono ?_;rintro e W2 ⟨rfl,b2⟩;go_wp2_with fail;exact C5 (hQ' _ _ b2 rfl (fun h=>by cases h)) (by kernel_rfl)
  case jI=>intro o ho us W hW hp Q' hQ';obtain rfl:=Option.some.inj ho;have gV:us 2=(J7 (Pl (J1 C3 F0))):=hp 1 _ rfl (by kernel_rfl);clear hp ho;rw[C2]at hQ' ⊢;dsimp only[E4,E0,List.foldl,zv,za]at hQ' ⊢;simp only[List.set_cons_succ,List.set_cons_zero];rw[gV]at hQ' ⊢;clear gV;go_wp2_with fail;refine (Zi p F0 hp O7 W).mono ?_;rintro e W2 ⟨rfl,b2⟩;go_wp2_with fail;exact C5 (hQ' _ _ b2 rfl (fun h=>by cases h)) (by kernel_rfl)
  case jJ=>exact Ed rfl rfl (fun ρ W=>A5b W ρ _ _ _ _ _)
  case jK=>exact Ed rfl rfl (fun ρ W=>A5b W ρ _ _ _ _ _)
 case gU=>
 intro us W7 b8 hg dL gW;have bV:us 0=(J7 C3.row):=hg _ (List.mem_of_getElem? (i:=0) rfl);have gV:us 2=(J7 (Pl (J1 C3 F0))):=hg _ (List.mem_of_getElem? (i:=1) rfl);have dW:us 5=(J7 (Pl (J1 p F0))):=hg _ (List.mem_of_getElem? (i:=2) rfl);obtain⟨p9,gP,fH⟩:=hg _ (List.mem_of_getElem? (i:=3) rfl);have gP:us 6=.pointer (some ⟨p9,0,none⟩):=gP;have fI:=Qq (gW _ (List.mem_of_getElem? (i:=3) rfl) rfl) gP;obtain⟨aF,bD,gX⟩:=hg _ (List.mem_of_getElem? (i:=4) rfl);have bD:us 7=.pointer (some ⟨aF,0,none⟩):=bD;have fJ:=Qq (gW _ (List.mem_of_getElem? (i:=4) rfl) rfl) bD;have gQ:=D8b (dL _ (List.mem_of_getElem? (i:=3) rfl) _ (List.mem_of_getElem? (i:=4) rfl) rfl rfl (by decide)) gP bD;have dX:=C0 S6 b8 S6.size;have gY:w.heap.size<p9:=Nat.lt_of_lt_of_le aX.drew.lt fI.1;have gZ:w.heap.size+1<p9:=Nat.lt_of_lt_of_le aN.drew.lt fI.1;have iA:w.heap.size+2<p9:=Nat.lt_of_lt_of_le aY.drew.lt fI.1;have iB:w.heap.size+3<p9:=Nat.lt_of_lt_of_le aZ.drew.lt fI.1;have iC:p5<p9:=Nat.lt_of_lt_of_le aL.drew.lt fI.1;have kB:w.heap.size+4≤p9:=Nat.le_trans jB (Nat.le_trans S6.size fI.1);clear fI;have iD:w.heap.size<aF:=Nat.lt_of_lt_of_le aX.drew.lt fJ.1;have iE:w.heap.size+1<aF:=Nat.lt_of_lt_of_le aN.drew.lt fJ.1;have iF:w.heap.size+2<aF:=Nat.lt_of_lt_of_le aY.drew.lt fJ.1;have iG:w.heap.size+3<aF:=Nat.lt_of_lt_of_le aZ.drew.lt fJ.1
 have iH:p5<aF:=Nat.lt_of_lt_of_le aL.drew.lt fJ.1;have kC:w.heap.size+4≤aF:=Nat.le_trans jB (Nat.le_trans S6.size fJ.1);clear fJ;rw[C2];dsimp only[E0,List.foldl,zv,za];simp only[List.set_cons_succ,List.set_cons_zero];rw[bV,gV,dW,gP,bD];clear hg dL gW bV gV dW gP bD b8 S6;have B7:=C0 jE dX jE.size;have z7:=Nat.le_trans jB dX.size;have iI:=aX.below dX aX.lt;have iJ:=aN.below dX aN.lt;have iK:=aY.below dX aY.lt;have iL:=aZ.below dX aZ.lt;have iM:=aL.below dX aL.lt;clear dX jE jB aX aN aY aZ aL;obtain⟨bX,aS⟩:∃z,z=C9 W7 ⟨p9,0,none⟩ (C7 (Pl (J1 C3 F0))):=⟨_,rfl⟩;have dY:Bk bX (p9) 177 (C7 (Pl (J1 C3 F0))):=by rw[aS];exact Bk.put64 (fH) ((show (J8 320).length=320 from by simp)) ((show (Pl (J1 C3 F0)).length=320 from by rw[X5 (Y7 Ae F0)];simp))
 have dZ:Bk bX (w.heap.size) 23 (c8 n):=by rw[aS];exact iI.putFar (p:=⟨p9,0,none⟩) (by show w.heap.size≠p9;omega) _
 have bY:Bk bX (w.heap.size+1) 140 (C7 p.row):=by rw[aS];exact iJ.putFar (p:=⟨p9,0,none⟩) (by show w.heap.size+1≠p9;omega) _
 have eC:Bk bX (w.heap.size+2) 23 (c8 mm):=by rw[aS];exact iK.putFar (p:=⟨p9,0,none⟩) (by show w.heap.size+2≠p9;omega) _
 have eD:Bk bX (w.heap.size+3) 140 (C7 (J8 20)):=by rw[aS];exact iL.putFar (p:=⟨p9,0,none⟩) (by show w.heap.size+3≠p9;omega) _
 have bZ:Bk bX (p5) 138 (C7 F0):=by rw[aS];exact iM.putFar (p:=⟨p9,0,none⟩) (by show p5≠p9;omega) _
 have cB:Bk bX (aF) 177 (C7 (J8 320)):=by rw[aS];exact gX.putFar (p:=⟨p9,0,none⟩) (by show aF≠p9;omega) _
 have kE:Below w.heap.size w bX:=by rw[aS];exact C1 B7 (by show w.heap.size≤p9;omega) _
 have fK:E8 W7 ⟨p9,0,none⟩ 320=true:=Bk.can64 (fH) ((show (J8 320).length=320 from by simp));have fL:(Pl (J1 C3 F0)).length=320:=(show (Pl (J1 C3 F0)).length=320 from by rw[X5 (Y7 Ae F0)];simp);refine C4 8 (by kernel_rfl) (by rfl) (by rfl) (fun Q' hQ'=>?_);dsimp only[E4];go_wp2_with fail;rw[←aS];refine hQ' _ _ ⟨bY,bZ⟩ ?_;clear hQ' fK fL;have kF:w.heap.size+4≤bX.heap.size:=by have hz:=z7;rw[aS];simp;omega
 clear aS B7 z7 iI iJ iK iL iM fH gX;obtain⟨aB,aT⟩:∃z,z=C9 bX ⟨aF,0,none⟩ (C7 (Pl (J1 p F0))):=⟨_,rfl⟩;have cC:Bk aB (aF) 177 (C7 (Pl (J1 p F0))):=by rw[aT];exact Bk.put64 (cB) ((show (J8 320).length=320 from by simp)) ((show (Pl (J1 p F0)).length=320 from by rw[X5 (Y7 hp F0)];simp))
 have cD:Bk aB (w.heap.size) 23 (c8 n):=by rw[aT];exact dZ.putFar (p:=⟨aF,0,none⟩) (by show w.heap.size≠aF;omega) _
 have bG:Bk aB (w.heap.size+1) 140 (C7 p.row):=by rw[aT];exact bY.putFar (p:=⟨aF,0,none⟩) (by show w.heap.size+1≠aF;omega) _
 have cE:Bk aB (w.heap.size+2) 23 (c8 mm):=by rw[aT];exact eC.putFar (p:=⟨aF,0,none⟩) (by show w.heap.size+2≠aF;omega) _
 have cF:Bk aB (w.heap.size+3) 140 (C7 (J8 20)):=by rw[aT];exact eD.putFar (p:=⟨aF,0,none⟩) (by show w.heap.size+3≠aF;omega) _
 have bH:Bk aB (p5) 138 (C7 F0):=by rw[aT];exact bZ.putFar (p:=⟨aF,0,none⟩) (by show p5≠aF;omega) _
 have bI:Bk aB (p9) 177 (C7 (Pl (J1 C3 F0))):=by rw[aT];exact dY.putFar (p:=⟨aF,0,none⟩) (by show p9≠aF;omega) _
 have jL:Below w.heap.size w aB:=by rw[aT];exact C1 kE (by show w.heap.size≤aF;omega) _
 have fM:E8 bX ⟨aF,0,none⟩ 320=true:=Bk.can64 (cB) ((show (J8 320).length=320 from by simp));have fN:(Pl (J1 p F0)).length=320:=(show (Pl (J1 p F0)).length=320 from by rw[X5 (Y7 hp F0)];simp);refine C4 9 (by kernel_rfl) (by rfl) (by rfl) (fun Q' hQ'=>?_);dsimp only[E4];go_wp2_with fail;rw[←aT];refine hQ' _ _ ⟨bG,bH⟩ ?_;clear hQ' fM fN;have jM:w.heap.size+4≤aB.heap.size:=by have hz:=kF;rw[aT];simp;omega
 clear aT kE kF dZ bY eC eD bZ dY cB;refine I9 (by kernel_rfl) ?_;obtain⟨cG,aM⟩:∃z,z=aB.alloc (Obj.cells (C7 (J8 20)).toArray 140):=⟨_,rfl⟩;have aU:aB.heap.size=aB.heap.size:=rfl;have aV:Bk cG (aB.heap.size) 140 (C7 (J8 20)):=by rw[aM,←aU];exact Bk.new aB _ _
 have cH:Bk cG (w.heap.size) 23 (c8 n):=by rw[aM];exact cD.alloc _
 have cI:Bk cG (w.heap.size+1) 140 (C7 p.row):=by rw[aM];exact bG.alloc _
 have cJ:Bk cG (w.heap.size+2) 23 (c8 mm):=by rw[aM];exact cE.alloc _
 have cK:Bk cG (w.heap.size+3) 140 (C7 (J8 20)):=by rw[aM];exact cF.alloc _
 have cL:Bk cG (p5) 138 (C7 F0):=by rw[aM];exact bH.alloc _
 have cM:Bk cG (p9) 177 (C7 (Pl (J1 C3 F0))):=by rw[aM];exact bI.alloc _
 have cN:Bk cG (aF) 177 (C7 (Pl (J1 p F0))):=by rw[aM];exact cC.alloc _
 have iN:Below w.heap.size w cG:=by rw[aM];exact jL.alloc jL.size _
 have bJ:w.heap.size<aB.heap.size:=by rw[←aU];exact cD.lt
 have bK:w.heap.size+1<aB.heap.size:=by rw[←aU];exact bG.lt
 have bL:w.heap.size+2<aB.heap.size:=by rw[←aU];exact cE.lt
 have bM:w.heap.size+3<aB.heap.size:=by rw[←aU];exact cF.lt
 have bN:p5<aB.heap.size:=by rw[←aU];exact bH.lt
 have bO:p9<aB.heap.size:=by rw[←aU];exact bI.lt
 have bP:aF<aB.heap.size:=by rw[←aU];exact cC.lt
 have fO:w.heap.size+4≤aB.heap.size:=by rw[←aU];exact Nat.le_trans jM (Nat.le_refl _)
 clear aU;obtain⟨dD,aO⟩:∃z,z=C9 cG ⟨aB.heap.size,0,none⟩ (C7 (Q4 (J1 C3 F0) 0).row):=⟨_,rfl⟩;have aW:Bk dD (aB.heap.size) 140 (C7 (Q4 (J1 C3 F0) 0).row):=by rw[aO];exact Bk.put64 (aV) ((show (J8 20).length=20 from by simp)) (((Y7 Ae F0).at 0).row)
 have cO:Bk dD (w.heap.size) 23 (c8 n):=by rw[aO];exact cH.putFar (p:=⟨aB.heap.size,0,none⟩) (by show w.heap.size≠aB.heap.size;omega) _
 have cP:Bk dD (w.heap.size+1) 140 (C7 p.row):=by rw[aO];exact cI.putFar (p:=⟨aB.heap.size,0,none⟩) (by show w.heap.size+1≠aB.heap.size;omega) _
 have cQ:Bk dD (w.heap.size+2) 23 (c8 mm):=by rw[aO];exact cJ.putFar (p:=⟨aB.heap.size,0,none⟩) (by show w.heap.size+2≠aB.heap.size;omega) _
 have cR:Bk dD (w.heap.size+3) 140 (C7 (J8 20)):=by rw[aO];exact cK.putFar (p:=⟨aB.heap.size,0,none⟩) (by show w.heap.size+3≠aB.heap.size;omega) _
 have cS:Bk dD (p5) 138 (C7 F0):=by rw[aO];exact cL.putFar (p:=⟨aB.heap.size,0,none⟩) (by show p5≠aB.heap.size;omega) _
 have cT:Bk dD (p9) 177 (C7 (Pl (J1 C3 F0))):=by rw[aO];exact cM.putFar (p:=⟨aB.heap.size,0,none⟩) (by show p9≠aB.heap.size;omega) _
 have cU:Bk dD (aF) 177 (C7 (Pl (J1 p F0))):=by rw[aO];exact cN.putFar (p:=⟨aB.heap.size,0,none⟩) (by show aF≠aB.heap.size;omega) _
 have iO:Below w.heap.size w dD:=by rw[aO];exact C1 iN (by show w.heap.size≤aB.heap.size;omega) _
 have kP:=show E5 _ ⟨_,0,none⟩ 20=some (C7 (Q4 (J1 C3 F0) 0).row) from Bk.plAt (i:=0) (bI) (Y7 Ae F0) (by simp;try omega);have cV:E8 cG ⟨aB.heap.size,0,none⟩ 20=true:=Bk.can64 (aV) ((show (J8 20).length=20 from by simp));rw[aM]at cV;have bC:(Q4 (J1 C3 F0) 0).row.length=20:=((Y7 Ae F0).at 0).row;go_wp2_with fail;rw[←aM,←aO];clear kP cV bC;obtain⟨aG,fP⟩:∃g,g=aB.heap.size:=⟨_,rfl⟩;rw[←fP]at aW bJ bK bL bM bN bO bP fO;try rw[←fP]
 have iP:w.heap.size+4≤dD.heap.size:=by have hz:=jM;rw[aO,aM];first | (simp;omega) | (simp[World.setCell];omega)
 clear aM aO fP cD bG cE cF bH bI cC jL jM cH cI cJ cK cL cM cN aV iN;go_loopw [11] (fun x11 wr=>∃m:Nat,0≤m∧m≤64∧x11=.int .i64 (63-(m:Int))∧Bk wr (w.heap.size) 23 (c8 n)∧Bk wr (w.heap.size+1) 140 (C7 p.row)∧Bk wr (w.heap.size+2) 23 (c8 mm)∧Bk wr (w.heap.size+3) 140 (C7 (J8 20))∧Bk wr (p5) 138 (C7 F0)∧Bk wr (p9) 177 (C7 (Pl (J1 C3 F0)))∧Bk wr (aF) 177 (C7 (Pl (J1 p F0)))∧Bk wr (aG) 140 (C7 (Z6 n p mm m).row)∧Below w.heap.size w wr∧w.heap.size+4≤wr.heap.size) (fun x11 _=>(intOf x11+1).toNat)
 case atStart=>exact ⟨0,by omega,by omega,rfl,cO,cP,cQ,cR,cS,cT,cU,aW,iO,iP⟩
 case round=>
  clear iO iP cO cP cQ cR cS cT cU aW;obtain⟨m,lE,hm,rfl,aC,aK,aD,aJ,aE,aH,aI,aA,dF,dM⟩:=hrel;by_cases hltm:m<64
  ·
   obtain⟨s,hs⟩:∃s,s=63-m:=⟨_,rfl⟩;have es:63-(m:Int)=(s:Int):=by omega
   have kQ:s<64:=by omega
   have hd:decide (0≤(s:Int))=true:=decide_eq_true (by omega);rw[es];have HM:Hid (Z6 n p mm (m+1)=X6 (X6 (Be 4 (Z6 n p mm m)) (Q4 (J1 C3 F0) (dg n s)) F0) (Q4 (J1 p F0) (dg mm s)) F0):=Lib.hid (by rw[hs];rfl);have ES:=Lib.hid es;clear hs es;have kR:=A8q n s;have kS:=A8q mm s;go_wp2_with fail;go_loopw [25] (fun x25 wr=>∃q:Nat,0≤q∧q≤4∧x25=.int .i64 (q:Int)∧Bk wr (w.heap.size) 23 (c8 n)∧Bk wr (w.heap.size+1) 140 (C7 p.row)∧Bk wr (w.heap.size+2) 23 (c8 mm)∧Bk wr (w.heap.size+3) 140 (C7 (J8 20))∧Bk wr (p5) 138 (C7 F0)∧Bk wr (p9) 177 (C7 (Pl (J1 C3 F0)))∧Bk wr (aF) 177 (C7 (Pl (J1 p F0)))∧Bk wr (aG) 140 (C7 (Be q (Z6 n p mm m)).row)∧Below w.heap.size w wr∧w.heap.size+4≤wr.heap.size) (fun x25 _=>4-(intOf x25).toNat)
   case atStart=>exact ⟨0,by omega,by omega,rfl,aC,aK,aD,aJ,aE,aH,aI,aA,dF,dM⟩
   case round=>
    clear dF dM aC aK aD aJ aE aH aI aA;obtain⟨q,lF,hq,rfl,aC,aK,aD,aJ,aE,aH,aI,aA,dF,dM⟩:=hrel;by_cases hltq:q<4
    ·
     have lG:decide ((q:Int)<4)=true:=decide_eq_true (by omega);have kT:=Bk.row64 (n:=20) (aA) ((Cx (Dc n p mm m) q).row);go_wp2_with fail;clear kT;refine (Pe (Be q (Z6 n p mm m)) (Cx (Dc n p mm m) q) wr).mono ?_;rintro e kG ⟨rfl,cW⟩;have kH:=C0 dF cW dF.size;have kI:=Nat.le_trans dM cW.size;have eE:=aC.below cW aC.lt;have eF:=aK.below cW aK.lt;have eG:=aD.below cW aD.lt;have eH:=aJ.below cW aJ.lt;have eI:=aE.below cW aE.lt;have eJ:=aH.below cW aH.lt;have eK:=aI.below cW aI.lt;have bE:=aA.below cW aA.lt;clear cW dF dM aC aK aD aJ aE aH aI aA;obtain⟨dG,aP⟩:∃z,z=C9 kG ⟨aG,0,none⟩ (C7 (Gm (Be q (Z6 n p mm m))).row):=⟨_,rfl⟩;have dN:Bk dG (aG) 140 (C7 (Gm (Be q (Z6 n p mm m))).row):=by rw[aP];exact Bk.put64 (bE) ((Cx (Dc n p mm m) q).row) ((Fc (Be q (Z6 n p mm m))).row)
     have fQ:Bk dG (w.heap.size) 23 (c8 n):=by rw[aP];exact eE.putFar (p:=⟨aG,0,none⟩) (by show w.heap.size≠aG;omega) _
     have fR:Bk dG (w.heap.size+1) 140 (C7 p.row):=by rw[aP];exact eF.putFar (p:=⟨aG,0,none⟩) (by show w.heap.size+1≠aG;omega) _
     have fS:Bk dG (w.heap.size+2) 23 (c8 mm):=by rw[aP];exact eG.putFar (p:=⟨aG,0,none⟩) (by show w.heap.size+2≠aG;omega) _
     have fT:Bk dG (w.heap.size+3) 140 (C7 (J8 20)):=by rw[aP];exact eH.putFar (p:=⟨aG,0,none⟩) (by show w.heap.size+3≠aG;omega) _
     have fU:Bk dG (p5) 138 (C7 F0):=by rw[aP];exact eI.putFar (p:=⟨aG,0,none⟩) (by show p5≠aG;omega) _
     have fV:Bk dG (p9) 177 (C7 (Pl (J1 C3 F0))):=by rw[aP];exact eJ.putFar (p:=⟨aG,0,none⟩) (by show p9≠aG;omega) _
     have fW:Bk dG (aF) 177 (C7 (Pl (J1 p F0))):=by rw[aP];exact eK.putFar (p:=⟨aG,0,none⟩) (by show aF≠aG;omega) _
     have jN:Below w.heap.size w dG:=by rw[aP];exact C1 kH (by show w.heap.size≤aG;omega) _
     have fX:E8 kG ⟨aG,0,none⟩ 20=true:=Bk.can64 (bE) ((Cx (Dc n p mm m) q).row);have bC:(Gm (Be q (Z6 n p mm m))).row.length=20:=(Fc (Be q (Z6 n p mm m))).row;go_wp2_with fail;rw[←aP];clear fX bC;have jO:w.heap.size+4≤dG.heap.size:=by have hz:=kI;rw[aP];first | (simp;omega) | (simp[World.setCell];omega)
     clear aP eE eF eG eH eI eJ eK bE kH kI;go_roundw;case rel=>exact ⟨q+1,by omega,by omega,by go_num,fQ,fR,fS,fT,fU,fV,fW,dN,jN,jO⟩
     case measure=>simp[intOf];omega
    ·
     obtain rfl:q=4:=by omega
     have e4:((4:Nat):Int)=4:=rfl;rw[e4];clear e4;go_wp2_with fail;have jP:Below wr.heap.size wr wr.drew:=(Below.refl _ _).drew;refine F2 (fun W=>Bk W (w.heap.size) 23 (c8 n)∧Bk W (w.heap.size+2) 23 (c8 mm)∧Bk W (p5) 138 (C7 F0)) (by kernel_rfl) ?_;refine C6 (A:=?kU) [1,2,6,8,9,13] (by kernel_rfl) (by kernel_rfl) rfl (by kernel_rfl) (by kernel_rfl) ⟨(aC.drew),(aD.drew),(aE.drew)⟩ (h:=fun W hW=>?jQ) (hr:=?kV);case jQ=>
      have f1:=Bk.row8 (n:=32) (hW.1) (hn);have f6:=Bk.row64 (n:=5) (hW.2.2) (O7);have f8:=Bk.row8 (n:=32) (hW.2.1) (hmm);simp only[pick,List.getElem?_cons_zero,List.getElem?_cons_succ];repeat (go_big_quiet_step (fail))
      refine wpQuiet_nil ?_;rfl
     refine N9 [zv 0 30 (J7 (Be 4 (Z6 n p mm m)).row),zv 3 33 (.int .u8 ((dg n s:Nat):Int)),zv 4 34 (.pointer (some ⟨p9,(dg n s)*20,none⟩)),zv 5 35 (J7 (Q4 (J1 C3 F0) (dg n s)).row),zv 7 37 (J7 (X6 (Be 4 (Z6 n p mm m)) (Q4 (J1 C3 F0) (dg n s)) F0).row),zv 10 40 (.int .u8 ((dg mm s:Nat):Int)),zv 11 41 (.pointer (some ⟨aF,(dg mm s)*20,none⟩)),zv 12 42 (J7 (Q4 (J1 p F0) (dg mm s)).row),zv 14 44 (J7 (X6 (X6 (Be 4 (Z6 n p mm m)) (Q4 (J1 C3 F0) (dg n s)) F0) (Q4 (J1 p F0) (dg mm s)) F0).row)] (by kernel_rfl) (fun W hW=>⟨(aC.drew.below hW aC.drew.lt),(aD.drew.below hW aD.drew.lt),(aE.drew.below hW aE.drew.lt)⟩) ?fY ?fZ ?gF;case fY=>exact (List.forall_mem_cons.2 ⟨H7 _ _ _,(List.forall_mem_cons.2 ⟨H7 _ _ _,(List.forall_mem_cons.2 ⟨H7 _ _ _,(List.forall_mem_cons.2 ⟨H7 _ _ _,(List.forall_mem_cons.2 ⟨H7 _ _ _,(List.forall_mem_cons.2 ⟨H7 _ _ _,(List.forall_mem_cons.2 ⟨H7 _ _ _,(List.forall_mem_cons.2 ⟨H7 _ _ _,(List.forall_mem_cons.2 ⟨H7 _ _ _,(fun _ h=>by cases h)⟩)⟩)⟩)⟩)⟩)⟩)⟩)⟩)⟩)
     case fZ=>
      refine (List.forall_mem_cons.2 ⟨?iQ,(List.forall_mem_cons.2 ⟨?iR,(List.forall_mem_cons.2 ⟨?iS,(List.forall_mem_cons.2 ⟨?iT,(List.forall_mem_cons.2 ⟨?iU,(List.forall_mem_cons.2 ⟨?gG,(List.forall_mem_cons.2 ⟨?gH,(List.forall_mem_cons.2 ⟨?gI,(List.forall_mem_cons.2 ⟨?gJ,(fun _ h=>by cases h)⟩)⟩)⟩)⟩)⟩)⟩)⟩)⟩)⟩);case iQ=>
       intro o ho us W hW hp Q' hQ';obtain rfl:=Option.some.inj ho;clear hp ho;rw[C2]at hQ' ⊢;dsimp only[E4,E0,List.foldl,zv,za]at hQ' ⊢;simp only[List.set_cons_succ,List.set_cons_zero];have f0:=Bk.row64 (n:=20) (aA.drew.below hW aA.drew.lt) ((Cx (Dc n p mm m) 4).row);go_wp2_with fail;exact C5 (hQ' _ _ (Below.refl _ _) rfl (fun h=>by cases h)) (by kernel_rfl)
      case iR=>intro o ho us W hW hp Q' hQ';obtain rfl:=Option.some.inj ho;clear hp ho;rw[C2]at hQ' ⊢;dsimp only[E4,E0,List.foldl,zv,za]at hQ' ⊢;simp only[List.set_cons_succ,List.set_cons_zero];go_wp2_with fail;refine (Tw n hn s (by omega) W).mono ?_;rintro e W2 ⟨rfl,b2⟩;go_wp2_with fail;exact C5 (hQ' _ _ b2 rfl (fun h=>by cases h)) (by kernel_rfl)
      case iS=>intro o ho us W hW hp Q' hQ';obtain rfl:=Option.some.inj ho;have eL:us 3=(.int .u8 ((dg n s:Nat):Int)):=hp 1 _ rfl (by kernel_rfl);clear hp ho;rw[C2]at hQ' ⊢;dsimp only[E4,E0,List.foldl,zv,za]at hQ' ⊢;simp only[List.set_cons_succ,List.set_cons_zero];rw[eL]at hQ' ⊢;clear eL;go_wp2_with fail;exact C5 (hQ' _ _ (Below.refl _ _) rfl (fun h=>by cases h)) (by kernel_rfl)
      case iT=>intro o ho us W hW hp Q' hQ';obtain rfl:=Option.some.inj ho;have iV:us 4=(.pointer (some ⟨p9,(dg n s)*20,none⟩)):=hp 2 _ rfl (by kernel_rfl);clear hp ho;rw[C2]at hQ' ⊢;dsimp only[E4,E0,List.foldl,zv,za]at hQ' ⊢;simp only[List.set_cons_succ,List.set_cons_zero];rw[iV]at hQ' ⊢;clear iV;have f5:=show E5 _ ⟨_,(dg n s)*20,none⟩ 20=some (C7 (Q4 (J1 C3 F0) (dg n s)).row) from Bk.plAt (i:=(dg n s)) (aH.drew.below hW aH.drew.lt) (Y7 Ae F0) (by simp;try omega);go_wp2_with fail;exact C5 (hQ' _ _ (Below.refl _ _) rfl (fun h=>by cases h)) (by kernel_rfl)
      case iU=>intro o ho us W hW hp Q' hQ';obtain rfl:=Option.some.inj ho;have bV:us 0=(J7 (Be 4 (Z6 n p mm m)).row):=hp 0 _ rfl (by kernel_rfl);have eL:us 3=(.int .u8 ((dg n s:Nat):Int)):=hp 1 _ rfl (by kernel_rfl);have dW:us 5=(J7 (Q4 (J1 C3 F0) (dg n s)).row):=hp 3 _ rfl (by kernel_rfl);clear hp ho;rw[C2]at hQ' ⊢;dsimp only[E4,E0,List.foldl,zv,za]at hQ' ⊢;simp only[List.set_cons_succ,List.set_cons_zero];rw[bV,eL,dW]at hQ' ⊢;clear bV eL dW;go_wp2_with fail;refine (Qw (Be 4 (Z6 n p mm m)) (Q4 (J1 C3 F0) (dg n s)) F0 (Cx (Dc n p mm m) 4) ((Y7 Ae F0).at (dg n s)) O7 W).mono ?_;rintro e W2 ⟨rfl,b2⟩;go_wp2_with fail;exact C5 (hQ' _ _ b2 rfl (fun h=>by cases h)) (by kernel_rfl)
      case gG=>intro o ho us W hW hp Q' hQ';obtain rfl:=Option.some.inj ho;have bD:us 7=(J7 (X6 (Be 4 (Z6 n p mm m)) (Q4 (J1 C3 F0) (dg n s)) F0).row):=hp 4 _ rfl (by kernel_rfl);clear hp ho;rw[C2]at hQ' ⊢;dsimp only[E4,E0,List.foldl,zv,za]at hQ' ⊢;simp only[List.set_cons_succ,List.set_cons_zero];rw[bD]at hQ' ⊢;clear bD;go_wp2_with fail;refine (Tw mm hmm s (by omega) W).mono ?_;rintro e W2 ⟨rfl,b2⟩;go_wp2_with fail;exact C5 (hQ' _ _ b2 rfl (fun h=>by cases h)) (by kernel_rfl)
      case gH=>intro o ho us W hW hp Q' hQ';obtain rfl:=Option.some.inj ho;have bB:us 10=(.int .u8 ((dg mm s:Nat):Int)):=hp 5 _ rfl (by kernel_rfl);clear hp ho;rw[C2]at hQ' ⊢;dsimp only[E4,E0,List.foldl,zv,za]at hQ' ⊢;simp only[List.set_cons_succ,List.set_cons_zero];rw[bB]at hQ' ⊢;clear bB;go_wp2_with fail;exact C5 (hQ' _ _ (Below.refl _ _) rfl (fun h=>by cases h)) (by kernel_rfl)
      case gI=>intro o ho us W hW hp Q' hQ';obtain rfl:=Option.some.inj ho;have cX:us 11=(.pointer (some ⟨aF,(dg mm s)*20,none⟩)):=hp 6 _ rfl (by kernel_rfl);clear hp ho;rw[C2]at hQ' ⊢;dsimp only[E4,E0,List.foldl,zv,za]at hQ' ⊢;simp only[List.set_cons_succ,List.set_cons_zero];rw[cX]at hQ' ⊢;clear cX;have lH:=show E5 _ ⟨_,(dg mm s)*20,none⟩ 20=some (C7 (Q4 (J1 p F0) (dg mm s)).row) from Bk.plAt (i:=(dg mm s)) (aI.drew.below hW aI.drew.lt) (Y7 hp F0) (by simp;try omega);go_wp2_with fail;exact C5 (hQ' _ _ (Below.refl _ _) rfl (fun h=>by cases h)) (by kernel_rfl)
      case gJ=>intro o ho us W hW hp Q' hQ';obtain rfl:=Option.some.inj ho;have bD:us 7=(J7 (X6 (Be 4 (Z6 n p mm m)) (Q4 (J1 C3 F0) (dg n s)) F0).row):=hp 4 _ rfl (by kernel_rfl);have bB:us 10=(.int .u8 ((dg mm s:Nat):Int)):=hp 5 _ rfl (by kernel_rfl);have cY:us 12=(J7 (Q4 (J1 p F0) (dg mm s)).row):=hp 7 _ rfl (by kernel_rfl);clear hp ho;rw[C2]at hQ' ⊢;dsimp only[E4,E0,List.foldl,zv,za]at hQ' ⊢;simp only[List.set_cons_succ,List.set_cons_zero];rw[bD,bB,cY]at hQ' ⊢;clear bD bB cY;go_wp2_with fail;refine (Qw (X6 (Be 4 (Z6 n p mm m)) (Q4 (J1 C3 F0) (dg n s)) F0) (Q4 (J1 p F0) (dg mm s)) F0 (Db (Be 4 (Z6 n p mm m)) (Q4 (J1 C3 F0) (dg n s)) F0) ((Y7 hp F0).at (dg mm s)) O7 W).mono ?_;rintro e W2 ⟨rfl,b2⟩;go_wp2_with fail;exact C5 (hQ' _ _ b2 rfl (fun h=>by cases h)) (by kernel_rfl)
     case gF=>
     intro us kJ kK hg dL gW;have bV:us 0=(J7 (Be 4 (Z6 n p mm m)).row):=hg _ (List.mem_of_getElem? (i:=0) rfl);have eL:us 3=(.int .u8 ((dg n s:Nat):Int)):=hg _ (List.mem_of_getElem? (i:=1) rfl);have iV:us 4=(.pointer (some ⟨p9,(dg n s)*20,none⟩)):=hg _ (List.mem_of_getElem? (i:=2) rfl);have dW:us 5=(J7 (Q4 (J1 C3 F0) (dg n s)).row):=hg _ (List.mem_of_getElem? (i:=3) rfl);have bD:us 7=(J7 (X6 (Be 4 (Z6 n p mm m)) (Q4 (J1 C3 F0) (dg n s)) F0).row):=hg _ (List.mem_of_getElem? (i:=4) rfl);have bB:us 10=(.int .u8 ((dg mm s:Nat):Int)):=hg _ (List.mem_of_getElem? (i:=5) rfl);have cX:us 11=(.pointer (some ⟨aF,(dg mm s)*20,none⟩)):=hg _ (List.mem_of_getElem? (i:=6) rfl);have cY:us 12=(J7 (Q4 (J1 p F0) (dg mm s)).row):=hg _ (List.mem_of_getElem? (i:=7) rfl);have iW:us 14=(J7 (X6 (X6 (Be 4 (Z6 n p mm m)) (Q4 (J1 C3 F0) (dg n s)) F0) (Q4 (J1 p F0) (dg mm s)) F0).row):=hg _ (List.mem_of_getElem? (i:=8) rfl);have cZ:=C0 jP kK jP.size;rw[C2];dsimp only[E0,List.foldl,zv,za];simp only[List.set_cons_succ,List.set_cons_zero];rw[bV,eL,iV,dW,bD,bB,cX,cY,iW];clear hg dL gW bV eL iV dW bD bB cX cY iW kK jP;have kL:=C0 dF cZ dF.size;have kM:=Nat.le_trans dM cZ.size;have eM:=aC.below cZ aC.lt;have eN:=aK.below cZ aK.lt;have eO:=aD.below cZ aD.lt;have eP:=aJ.below cZ aJ.lt
     have eQ:=aE.below cZ aE.lt;have eS:=aH.below cZ aH.lt;have eT:=aI.below cZ aI.lt;have bF:=aA.below cZ aA.lt;clear cZ dF dM aC aK aD aJ aE aH aI aA;obtain⟨dI,aQ⟩:∃z,z=C9 kJ ⟨aG,0,none⟩ (C7 (X6 (X6 (Be 4 (Z6 n p mm m)) (Q4 (J1 C3 F0) (dg n s)) F0) (Q4 (J1 p F0) (dg mm s)) F0).row):=⟨_,rfl⟩;have gK:Bk dI (aG) 140 (C7 (X6 (X6 (Be 4 (Z6 n p mm m)) (Q4 (J1 C3 F0) (dg n s)) F0) (Q4 (J1 p F0) (dg mm s)) F0).row):=by rw[aQ];exact Bk.put64 (bF) ((Cx (Dc n p mm m) 4).row) ((Db (X6 (Be 4 (Z6 n p mm m)) (Q4 (J1 C3 F0) (dg n s)) F0) (Q4 (J1 p F0) (dg mm s)) F0).row)
     have eU:Bk dI (w.heap.size) 23 (c8 n):=by rw[aQ];exact eM.putFar (p:=⟨aG,0,none⟩) (by show w.heap.size≠aG;omega) _
     have iX:Bk dI (w.heap.size+1) 140 (C7 p.row):=by rw[aQ];exact eN.putFar (p:=⟨aG,0,none⟩) (by show w.heap.size+1≠aG;omega) _
     have eV:Bk dI (w.heap.size+2) 23 (c8 mm):=by rw[aQ];exact eO.putFar (p:=⟨aG,0,none⟩) (by show w.heap.size+2≠aG;omega) _
     have iY:Bk dI (w.heap.size+3) 140 (C7 (J8 20)):=by rw[aQ];exact eP.putFar (p:=⟨aG,0,none⟩) (by show w.heap.size+3≠aG;omega) _
     have eW:Bk dI (p5) 138 (C7 F0):=by rw[aQ];exact eQ.putFar (p:=⟨aG,0,none⟩) (by show p5≠aG;omega) _
     have iZ:Bk dI (p9) 177 (C7 (Pl (J1 C3 F0))):=by rw[aQ];exact eS.putFar (p:=⟨aG,0,none⟩) (by show p9≠aG;omega) _
     have jA:Bk dI (aF) 177 (C7 (Pl (J1 p F0))):=by rw[aQ];exact eT.putFar (p:=⟨aG,0,none⟩) (by show aF≠aG;omega) _
     have kW:Below w.heap.size w dI:=by rw[aQ];exact C1 kL (by show w.heap.size≤aG;omega) _
     have gL:E8 kJ ⟨aG,0,none⟩ 20=true:=Bk.can64 (bF) ((Cx (Dc n p mm m) 4).row);have gM:(X6 (X6 (Be 4 (Z6 n p mm m)) (Q4 (J1 C3 F0) (dg n s)) F0) (Q4 (J1 p F0) (dg mm s)) F0).row.length=20:=(Db (X6 (Be 4 (Z6 n p mm m)) (Q4 (J1 C3 F0) (dg n s)) F0) (Q4 (J1 p F0) (dg mm s)) F0).row;refine C4 15 (by kernel_rfl) (by rfl) (by rfl) (fun Q' hQ'=>?_);dsimp only[E4];go_wp2_with fail;rw[←aQ];refine hQ' _ _ ⟨eU,eV,eW⟩ ?_;clear hQ' gL gM;have kX:w.heap.size+4≤dI.heap.size:=by have hz:=kM;rw[aQ];simp;omega
     clear aQ kL kM eM eN eO eP eQ eS eT bF;refine I9 (by kernel_rfl) ?_;go_wp2_with fail;go_roundw;case rel=>exact ⟨m+1,by omega,by omega,by rw[←ES.out];all_goals (simp<;>omega),eU,iX,eV,iY,eW,iZ,jA,(by rw[HM.out];exact gK),kW,kX⟩
     case measure=>have:=ES.out;simp[intOf]<;>omega
  ·
   obtain rfl:m=64:=by omega
   obtain⟨dJ,aR⟩:∃z,z=C9 wr ⟨w.heap.size+3,0,none⟩ (C7 (Z6 n p mm 64).row):=⟨_,rfl⟩;have gN:Bk dJ (w.heap.size+3) 140 (C7 (Z6 n p mm 64).row):=by rw[aR];exact Bk.put64 (aJ) ((show (J8 20).length=20 from by simp)) ((Dc n p mm 64).row)
   have jR:Bk dJ (w.heap.size) 23 (c8 n):=by rw[aR];exact aC.putFar (p:=⟨w.heap.size+3,0,none⟩) (by show w.heap.size≠w.heap.size+3;omega) _
   have jS:Bk dJ (w.heap.size+1) 140 (C7 p.row):=by rw[aR];exact aK.putFar (p:=⟨w.heap.size+3,0,none⟩) (by show w.heap.size+1≠w.heap.size+3;omega) _
   have jT:Bk dJ (w.heap.size+2) 23 (c8 mm):=by rw[aR];exact aD.putFar (p:=⟨w.heap.size+3,0,none⟩) (by show w.heap.size+2≠w.heap.size+3;omega) _
   have jU:Bk dJ (p5) 138 (C7 F0):=by rw[aR];exact aE.putFar (p:=⟨w.heap.size+3,0,none⟩) (by show p5≠w.heap.size+3;omega) _
   have jV:Bk dJ (p9) 177 (C7 (Pl (J1 C3 F0))):=by rw[aR];exact aH.putFar (p:=⟨w.heap.size+3,0,none⟩) (by show p9≠w.heap.size+3;omega) _
   have jW:Bk dJ (aF) 177 (C7 (Pl (J1 p F0))):=by rw[aR];exact aI.putFar (p:=⟨w.heap.size+3,0,none⟩) (by show aF≠w.heap.size+3;omega) _
   have jC:Bk dJ (aG) 140 (C7 (Z6 n p mm 64).row):=by rw[aR];exact aA.putFar (p:=⟨w.heap.size+3,0,none⟩) (by show aG≠w.heap.size+3;omega) _
   have jX:Below w.heap.size w dJ:=by rw[aR];exact C1 dF (by show w.heap.size≤w.heap.size+3;omega) _
   have kY:=Bk.row64 (n:=20) (aA) ((Dc n p mm 64).row);have gO:E8 wr ⟨w.heap.size+3,0,none⟩ 20=true:=Bk.can64 (aJ) ((show (J8 20).length=20 from by simp));have bC:(Z6 n p mm 64).row.length=20:=(Dc n p mm 64).row;go_wp2_with fail;rw[←aR];clear kY gO bC;have kZ:w.heap.size+4≤dJ.heap.size:=by have hz:=dM;rw[aR];first | (simp;omega) | (simp[World.setCell];omega)
   clear aR dM;have jY:(Z6 n p mm 64).row.length=20:=(Dc n p mm 64).row;refine bodyPost_ret (E9 rfl _ _ _ _ _ _ rfl gN Hc rfl (by simp[Rj,jY])) rfl ⟨rfl,jX⟩
theorem E5q (x y:UInt8):Op.intArith .sub .u8 (n8 x) (n8 y)=pure (.int .u8 (n8 (x-y))):=by
 unfold Op.intArith n8;have hx:=lt8 x;have hy:=lt8 y;have e:IntKind.u8.wrap ((x.toNat:Int)-(y.toNat:Int))=(((256-y.toNat+x.toNat) % 256:Nat):Int):=by
  simp only[IntKind.wrap,IntKind.bits,IntKind.signed,Bool.false_and,Bool.false_eq_true,if_false];omega
 rw[e,UInt8.toNat_sub]
@[go_sem ↓ high] theorem E7x (x : UInt8) : Op.intArith .sub .u8 (n8 x) 97 = pure (.int .u8 (n8 (x - 97))) := E5q x 97
@[go_sem ↓ high] theorem E8k (x : UInt8) : Op.intArith .sub .u8 (n8 x) 48 = pure (.int .u8 (n8 (x - 48))) := E5q x 48
@[go_sem ↓ high] theorem F0e (x : UInt8) : Op.intArith .add .u8 (n8 x) 10 = pure (.int .u8 (n8 (x + 10))) := F0p x 10
def Ri (c:UInt8):UInt8:=if 97≤c.toNat then c-97+10 else c-48
theorem Zb (c:UInt8) (w:World):Calls Tryz.prog 147 #[.int .u8 (n8 c)] w fun e w'=>e=.returned (.int .u8 (n8 (Ri c)))∧Below w.heap.size w w':=by
 by_cases h:97≤c.toNat
 ·have h1:97≤n8 c:=by unfold n8;omega
  have HN:Hid (Ri c=c-97+10):=Lib.hid (if_pos h);clear h;go_enter Tryz.func147,Tryz.ntmps147;go_wp2_with fail;go_ret;exact ⟨by rw[HN.out];rfl,Below.refl _ _⟩
 ·have h1:n8 c<97:=by unfold n8;omega
  have HN:Hid (Ri c=c-48):=Lib.hid (if_neg h);clear h;go_enter Tryz.func147,Tryz.ntmps147;go_wp2_with fail;go_ret;exact ⟨by rw[HN.out];rfl,Below.refl _ _⟩
noncomputable def Yp:ByteArray:=match Tryz.f146.body with
 | some (.seq _ (.seq (.region _ ops _) _))=>(match ops[0]? with
  | some o=>(match o.op with | .assign (.const (.string b))=>b | _=>⟨#[]⟩)
  | none=>⟨#[]⟩)
 | _=>⟨#[]⟩
noncomputable def P8:List UInt8:=Yp.data.toList
theorem A3n:P8.length=4096:=by kernel_rfl
theorem B3u : Tryz.f146.body = some (Code.seq (Code.region 0 #[{ dst := some 0, op := .assign (.const (.string ⟨#[]⟩)), type := 9, pos := "curve.go:119", after := #[], guard := none }] false)
 (Code.seq (Code.region 1 #[{ dst := some 0, op := .assign (.const (.string Yp)), type := 9, pos := "curve.go:120", after := #[], guard := none }] false) Code.ret)) := by kernel_rfl
theorem C5t:Value.string Yp=S8 P8:=rfl
attribute [irreducible] Yp P8
theorem C0a (w:World):Calls Tryz.prog 146 #[] w fun e w'=>e=.returned (S8 P8)∧Below w.heap.size w w':=by
 refine calls_of_wp Tryz.func146 B3u ?_;simp only[Tryz.ntmps146,List.size_toArray,List.length_cons,List.length_nil,Nat.reduceAdd,Nat.reduceSub,Array.replicate_succ,
  Array.replicate_zero,List.push_toArray,List.append_toArray,List.nil_append,List.cons_append]
 have HS:=Lib.hid C5t;go_wp2_with fail;go_ret;exact ⟨by rw[←HS.out];rfl,Below.refl _ _⟩
def D8o (w:World) (raw:Result Next):Value→Value→Result Next
 | .string s,.int _ i=>if 0≤i∧i<s.data.toList.length then .ok (.value (.int .u8 (n8 (g8 s.data.toList i.toNat)))) w else raw
 | _,_=>raw
@[go_sem] theorem E9o (w : World) (raw : Result Next) (l : List UInt8) (k : IntKind) (i : Int) : D8o w raw (S8 l) (.int k i) = if 0 ≤ i ∧ i < l.length then .ok (.value (.int .u8 (n8 (g8 l i.toNat)))) w else raw := rfl
@[go_sem ↓ high] theorem D9b (w : World) (ρ : Operand → Value) (dst : Option Tmp) (ty : TypeId) (pos : String) (after : Array Edge) (guard : Option (Nat × Bool)) (x ix : Operand) :
 (execOp ρ { dst,op:=.index 9 x ix,type:=ty,pos,after,guard }).run Tryz.prog w=D8o w (M6 Tryz.prog ρ { dst,op:=.index 9 x ix,type:=ty,pos,after,guard } w) (ρ x) (ρ ix):=by
 generalize hv:ρ x=v;generalize hz:ρ ix=z;unfold D8o;split
 ·rename_i s kk i
  split
  ·rename_i hc
   have hs:s.size=s.data.toList.length:=rfl;have hi:0≤i∧i<s.size:=by omega
   have e1:=run_index_string (P:=Tryz.prog) w 9 s kk i Tryz.underlying9;rw[dif_pos hi]at e1;simp only[execOp,hv,hz,Sem.run_bind,e1,Result.andThen_ok,Sem.run_pure];have e2:((s[i.toNat]'(by omega)).toNat:Int)=n8 (g8 s.data.toList i.toNat):=by
    have hl:i.toNat<s.data.toList.length:=by omega
    unfold g8 n8;rw[List.getD_eq_getElem?_getD,List.getElem?_eq_getElem hl];show ((s.data[i.toNat]'(by omega)).toNat:Int)=_;simp
   rw[e2]
  ·rfl
 ·rfl
end Go.Proofs.YtlegpkdighoflaaGreat
