/- A part of the proof of DirPlays. -/
import Derived.Test.YtlegpkdighoflaaGreatRau
set_option linter.unusedVariables false
set_option linter.unusedSimpArgs false
set_option maxRecDepth 100000
set_option maxHeartbeats 40000000
namespace Go.Proofs.YtlegpkdighoflaaGreat
open Go Go.RowKit Sh
def Ek:Nat→Pn→Pn
 | 0,p=>p
 | q+1,p=>Mg (Ek q p)
theorem Gg {p:Pn} (hp:p.Ok):∀q,(Ek q p).Ok
 | 0=>hp
 | q+1=>Jl _
def Dn (n:List UInt8) (p:Pn) (m:List UInt8):Nat→Pn
 | 0=>U5 (Q7 F8 M7) 0
 | i+1=>Ai (Ai (Ek 4 (Dn n p m i)) (U5 (Q7 F8 M7) (dg n (63-i))) M7) (U5 (Q7 p M7) (dg m (63-i))) M7
theorem Gk (n:List UInt8) (p:Pn) (m:List UInt8):∀i,(Dn n p m i).Ok
 | 0=>(Ch Dy M7).at 0
 | i+1=>Dw _ _ _
def Nn (n:List UInt8) (p:Pn) (m:List UInt8):Pn:=Dn n p m 64
theorem C6c (n:List UInt8) (p:Pn) (m:List UInt8):(Nn n p m).Ok:=Gk _ _ _ _
def Pf:Nat→Pn→Pn
 | 0,p=>p
 | q+1,p=>A7u (Pf q p) (Pf q p)
theorem C6w (n:List UInt8) (p:Pn) (mm:List UInt8) (hn:n.length=32) (hp:p.Ok) (hmm:mm.length=32) (w:World):Calls Tryz.prog 116 #[A8 n,J3 p.row,A8 mm] w fun e w'=>e=.returned (J3 (Nn n p mm).row)∧Below w.heap.size w w':=by
 have kO:=Dy.row;obtain⟨W0,iR⟩:=H8 (((((w.alloc (Obj.cells (c8 n).toArray 23)).alloc (Obj.cells (C9 p.row).toArray 140)).alloc (Obj.cells (c8 mm).toArray 23)).alloc (Obj.cells (C9 (K9 20)).toArray 140)));have hL:W0=O9 w [(23,(c8 n)),(140,(C9 p.row)),(23,(c8 mm)),(140,(C9 (K9 20)))]:=iR;have B0:=Li hL;have fZ:=Me hL rfl;have gA:=Jh 1 hL rfl;have gC:=Jh 2 hL rfl;have gF:=Jh 3 hL rfl;have z0:=ZL' 4 hL rfl;have jT:=SL' 4 hL rfl;clear hL;go_enter Tryz.func116,Tryz.ntmps116;go_wp2_with fail;rw[←iR];clear iR jT;refine (Xs W0).mono ?_;rintro e W1 ⟨rfl,b2⟩;have B1:=M9 B0 b2;have z1:=Nat.le_trans z0 b2.size;have eK:=fZ.bl b2;have eL:=gA.bl b2;have eM:=gC.bl b2;have eN:=gF.bl b2;clear b2 B0 z0 fZ gA gC gF;obtain⟨V3,cS⟩:=H8 (W1.alloc (Obj.cells (C9 (K9 5)).toArray 138));have eO:W1.heap.size=W1.heap.size:=rfl;have bL:Bk V3 (W1.heap.size) 138 (C9 (K9 5)):=by rw[cS,←eO];exact Bk.new W1 _ _
 have cX:=Bu cS eK;have cY:=Bu cS eL;have cZ:=Bu cS eM;have dC:=Bu cS eN;have jE:=Mx cS B1;have bM:=Ce eO eK;have bN:=Ce eO eL;have bO:=Ce eO eM;have bP:=Ce eO eN;have gG:w.heap.size+4≤W1.heap.size:=by rw[←eO];exact Nat.le_trans z1 (Nat.le_refl _)
 clear eO;obtain⟨V4,cT⟩:=H8 (E0 V3 ⟨W1.heap.size,0,none⟩ (C9 M7));have aL:=Gp 5 cT bL (by simp) Z2;have aY:=M6 cT cX (by omega);have aQ:=M6 cT cY (by omega);have aZ:=M6 cT cZ (by omega);have bA:=M6 cT dC (by omega);have jF:=Cs cT jE (by omega);have dD:=Fs 5 bL (by simp);rw[cS]at dD;have aU:M7.length=5:=Z2;go_wp2_with fail;rw[←cS,←cT];clear dD aU;obtain⟨p5,iS⟩:=H8 (W1.heap.size);rw[←iS]at aL bM bN bO bP gG;try rw[←iS]
 have iQ:w.heap.size+4≤V4.heap.size:=by have hz:=z1;rw[cT,cS];first | (simp;omega) | (simp[World.setCell];omega)
 clear cS cT iS eK eL eM eN B1 z1 cX cY cZ dC bL jE;have S6:=Gr V4;refine Gd (fun W=>Bk W (w.heap.size+1) 140 (C9 p.row)∧Bk W (p5) 138 (C9 M7)) ?_;refine Ec (A:=?kP) [1,3,4] ⟨(aQ.drew),(aL.drew)⟩ (fun W hW=>?jU) ?kQ;case jU=>
  have f1:=Bk.row64 (n:=5) (hW.2) (Z2);have f3:=Bk.row64 (n:=20) (hW.1) (hp.row);exact Fo
 refine M8 [zv 0 13 (J3 F8.row),zv 2 15 (J3 (Pl (Q7 F8 M7))),zv 5 18 (J3 (Pl (Q7 p M7))),za 6 8 177 (C9 (K9 320)),za 7 9 177 (C9 (K9 320))] (by kernel_rfl) (fun W hW=>⟨(aQ.drew.bl hW),(aL.drew.bl hW)⟩) ?gH ?gI ?gJ;case gH=>exact Ng
 case gI=>
  refine (T7 ⟨?iT,(T7 ⟨?iU,(T7 ⟨?iV,(T7 ⟨?iW,(T7 ⟨?iX,Mh⟩)⟩)⟩)⟩)⟩);case iT=>
   exact Vz fun W=>Sd W
  case iU=>exact Lx fun W=>A4k F8 M7 Dy Z2 W
  case iV=>exact A4i fun W=>A4k p M7 hp Z2 W
  case iW=>exact T8 rfl rfl (fun ρ W=>A5s W ρ _ _ _ _ _)
  case iX=>exact T8 rfl rfl (fun ρ W=>A5s W ρ _ _ _ _ _)
 case gJ=>
 intro us W7 b8 hg cU gK;have dF:us 0=(J3 F8.row):=hg _ (Q6 0 rfl);have jG:us 2=(J3 (Pl (Q7 F8 M7))):=hg _ (Q6 1 rfl);have dG:us 5=(J3 (Pl (Q7 p M7))):=hg _ (Q6 2 rfl);obtain⟨p9,fW,eP⟩:=hg _ (Q6 3 rfl);have fW:us 6=.pointer (some ⟨p9,0,none⟩):=fW;have eQ:=Dg (gK _ (Q6 3 rfl) rfl) fW;obtain⟨eS,aV,gL⟩:=hg _ (Q6 4 rfl);have aV:us 7=.pointer (some ⟨eS,0,none⟩):=aV;have eT:=Dg (gK _ (Q6 4 rfl) rfl) aV;have fX:=Oi (cU _ (Q6 3 rfl) _ (Q6 4 rfl) rfl rfl (by decide)) fW aV;have dI:=M9 S6 b8;have gM:=Z8 aY eQ.1;have gN:=Z8 aQ eQ.1;have gO:=Z8 aZ eQ.1;have gP:=Z8 bA eQ.1;have gQ:=Z8 aL eQ.1;have jH:=Nat.le_trans iQ (Nat.le_trans S6.size eQ.1);clear eQ;have gR:=Z8 aY eT.1;have gS:=Z8 aQ eT.1;have gT:=Z8 aZ eT.1;have gU:=Z8 bA eT.1;have gV:=Z8 aL eT.1;have jI:=Nat.le_trans iQ (Nat.le_trans S6.size eT.1);clear eT;refine Ro ?_;rw[dF,jG,dG,fW,aV];clear hg cU gK dF jG dG fW aV b8 S6;have B7:=M9 jF dI;have z7:=Nat.le_trans iQ dI.size;have gW:=aY.bl dI;have gY:=aQ.bl dI;have gZ:=aZ.bl dI;have iA:=bA.bl dI;have iB:=aL.bl dI;clear dI jF iQ aY aQ aZ bA aL;obtain⟨jV,aM⟩:=H8 (E0 W7 ⟨p9,0,none⟩ (C9 (Pl (Q7 F8 M7))));have dJ:=Gp 320 aM eP (by simp) (by rw[Z9 (Ch Dy M7)];simp)
 have dK:=M6 aM gW (by omega);have bQ:=M6 aM gY (by omega);have dL:=M6 aM gZ (by omega);have dM:=M6 aM iA (by omega);have bR:=M6 aM iB (by omega);have bS:=M6 aM gL (by omega);have jJ:=Cs aM B7 (by omega);have eU:=Fs 320 eP (by simp);have eV:(Pl (Q7 F8 M7)).length=320:=(show (Pl (Q7 F8 M7)).length=320 from by rw[Z9 (Ch Dy M7)];simp);refine Z3 8 fun Q' hQ'=>?_;dsimp only[F0];go_wp2_with fail;rw[←aM];refine hQ' _ _ ⟨bQ,bR⟩ ?_;clear hQ' eU eV;have jK:=Jw aM z7;clear aM B7 z7 gW gY gZ iA iB eP gL;obtain⟨dN,aN⟩:=H8 (E0 jV ⟨eS,0,none⟩ (C9 (Pl (Q7 p M7))));have bT:=Gp 320 aN bS (by simp) (by rw[Z9 (Ch hp M7)];simp);have bU:=M6 aN dK (by omega);have bB:=M6 aN bQ (by omega);have bV:=M6 aN dL (by omega);have bX:=M6 aN dM (by omega);have bC:=M6 aN bR (by omega);have bD:=M6 aN dJ (by omega);have jL:=Cs aN jJ (by omega);have eX:=Fs 320 bS (by simp);have eY:(Pl (Q7 p M7)).length=320:=(show (Pl (Q7 p M7)).length=320 from by rw[Z9 (Ch hp M7)];simp);refine Z3 9 fun Q' hQ'=>?_;dsimp only[F0];go_wp2_with fail;rw[←aN];refine hQ' _ _ ⟨bB,bC⟩ ?_;clear hQ' eX eY;have iY:=Jw aN jK;clear aN jJ jK dK bQ dL dM bR dJ bS;refine Fq ?_
 obtain⟨jM,aF⟩:=H8 (dN.alloc (Obj.cells (C9 (K9 20)).toArray 140));have aP:dN.heap.size=dN.heap.size:=rfl;have aR:Bk jM (dN.heap.size) 140 (C9 (K9 20)):=by rw[aF,←aP];exact Bk.new dN _ _
 have bY:=Bu aF bU;have bZ:=Bu aF bB;have cA:=Bu aF bV;have cB:=Bu aF bX;have cC:=Bu aF bC;have cD:=Bu aF bD;have cE:=Bu aF bT;have iC:=Mx aF jL;have bE:=Ce aP bU;have bF:=Ce aP bB;have bG:=Ce aP bV;have bH:=Ce aP bX;have bI:=Ce aP bC;have bJ:=Ce aP bD;have bK:=Ce aP bT;have eZ:w.heap.size+4≤dN.heap.size:=by rw[←aP];exact Nat.le_trans iY (Nat.le_refl _)
 clear aP;obtain⟨jW,aI⟩:=H8 (E0 jM ⟨dN.heap.size,0,none⟩ (C9 (U5 (Q7 F8 M7) 0).row));have aS:=Gp 20 aI aR (by simp) (((Ch Dy M7).at 0).row);have cF:=M6 aI bY (by omega);have cG:=M6 aI bZ (by omega);have cH:=M6 aI cA (by omega);have cI:=M6 aI cB (by omega);have cJ:=M6 aI cC (by omega);have cK:=M6 aI cD (by omega);have cL:=M6 aI cE (by omega);have iD:=Cs aI iC (by omega);have jX:=show J0 _ ⟨_,0,none⟩ 20=some (C9 (U5 (Q7 F8 M7) 0).row) from Bk.plAt (i:=0) (bD) (Ch Dy M7) (by simp;try omega);have cM:=Fs 20 aR (by simp);rw[aF]at cM;have aU:(U5 (Q7 F8 M7) 0).row.length=20:=((Ch Dy M7).at 0).row;go_wp2_with fail;rw[←aF,←aI];clear jX cM aU;obtain⟨fY,fB⟩:=H8 (dN.heap.size);rw[←fB]at aS bE bF bG bH bI bJ bK eZ;try rw[←fB]
 have iE:w.heap.size+4≤jW.heap.size:=by have hz:=iY;rw[aI,aF];first | (simp;omega) | (simp[World.setCell];omega)
 clear aF aI fB bU bB bV bX bC bD bT jL iY bY bZ cA cB cC cD cE aR iC;go_loopw [11] (fun x11 wr=>∃m:Nat,0≤m∧m≤64∧x11=.int .i64 (63-(m:Int))∧Bk wr (w.heap.size) 23 (c8 n)∧Bk wr (w.heap.size+1) 140 (C9 p.row)∧Bk wr (w.heap.size+2) 23 (c8 mm)∧Bk wr (w.heap.size+3) 140 (C9 (K9 20))∧Bk wr (p5) 138 (C9 M7)∧Bk wr (p9) 177 (C9 (Pl (Q7 F8 M7)))∧Bk wr (eS) 177 (C9 (Pl (Q7 p M7)))∧Bk wr (fY) 140 (C9 (Dn n p mm m).row)∧Below w.heap.size w wr∧w.heap.size+4≤wr.heap.size) (fun x11 _=>(intOf x11+1).toNat)
 case atStart=>exact ⟨0,by omega,by omega,rfl,cF,cG,cH,cI,cJ,cK,cL,aS,iD,iE⟩
 case round=>
  clear iD iE cF cG cH cI cJ cK cL aS;obtain⟨m,kR,hm,rfl,aB,aO,aC,aD,aE,aG,aH,aA,dO,cV⟩:=hrel;by_cases hltm:m<64
  ·
   obtain⟨s,hs⟩:=H8 (63-m);have es:63-(m:Int)=(s:Int):=by omega
   have jY:s<64:=by omega
   have hd:decide (0≤(s:Int))=true:=decide_eq_true (by omega);rw[es];have HM:Hid (Dn n p mm (m+1)=Ai (Ai (Ek 4 (Dn n p mm m)) (U5 (Q7 F8 M7) (dg n s)) M7) (U5 (Q7 p M7) (dg mm s)) M7):=Lib.hid (by rw[hs];rfl);have ES:=Lib.hid es;clear hs es;have jZ:=B2i n s;have kB:=B2i mm s;go_wp2_with fail;go_loopw [25] (fun x25 wr=>∃q:Nat,0≤q∧q≤4∧x25=.int .i64 (q:Int)∧Bk wr (w.heap.size) 23 (c8 n)∧Bk wr (w.heap.size+1) 140 (C9 p.row)∧Bk wr (w.heap.size+2) 23 (c8 mm)∧Bk wr (w.heap.size+3) 140 (C9 (K9 20))∧Bk wr (p5) 138 (C9 M7)∧Bk wr (p9) 177 (C9 (Pl (Q7 F8 M7)))∧Bk wr (eS) 177 (C9 (Pl (Q7 p M7)))∧Bk wr (fY) 140 (C9 (Ek q (Dn n p mm m)).row)∧Below w.heap.size w wr∧w.heap.size+4≤wr.heap.size) (fun x25 _=>4-(intOf x25).toNat)
   case atStart=>exact ⟨0,by omega,by omega,rfl,aB,aO,aC,aD,aE,aG,aH,aA,dO,cV⟩
   case round=>
    clear dO cV aB aO aC aD aE aG aH aA;obtain⟨q,kS,hq,rfl,aB,aO,aC,aD,aE,aG,aH,aA,dO,cV⟩:=hrel;by_cases hltq:q<4
    ·
     have kT:decide ((q:Int)<4)=true:=decide_eq_true (by omega);have kC:=Bk.row64 (n:=20) (aA) ((Gg (Gk n p mm m) q).row);go_wp2_with fail;clear kC;refine (Sa (Ek q (Dn n p mm m)) (Gg (Gk n p mm m) q) wr).mono ?_;rintro e kE ⟨rfl,cN⟩;have jN:=M9 dO cN;have jO:=Nat.le_trans cV cN.size;have dQ:=aB.bl cN;have dS:=aO.bl cN;have dT:=aC.bl cN;have dU:=aD.bl cN;have dW:=aE.bl cN;have dX:=aG.bl cN;have dY:=aH.bl cN;have aW:=aA.bl cN;clear cN dO cV aB aO aC aD aE aG aH aA;obtain⟨kF,aJ⟩:=H8 (E0 kE ⟨fY,0,none⟩ (C9 (Mg (Ek q (Dn n p mm m))).row));have cW:Bk kF (fY) 140 (C9 (Mg (Ek q (Dn n p mm m))).row):=by rw[aJ];exact Bk.put64 (aW) ((Gg (Gk n p mm m) q).row) ((Jl (Ek q (Dn n p mm m))).row)
     have fC:=M6 aJ dQ (by omega);have fD:=M6 aJ dS (by omega);have fE:=M6 aJ dT (by omega);have fF:=M6 aJ dU (by omega);have fG:=M6 aJ dW (by omega);have fH:=M6 aJ dX (by omega);have fI:=M6 aJ dY (by omega);have iZ:=Cs aJ jN (by omega);have fJ:=Fs 20 aW ((Gg (Gk n p mm m) q).row);have aU:(Mg (Ek q (Dn n p mm m))).row.length=20:=(Jl (Ek q (Dn n p mm m))).row;go_wp2_with fail;rw[←aJ];clear fJ aU;have jA:=Jw aJ jO;clear aJ dQ dS dT dU dW dX dY aW jN jO;go_roundw;case rel=>exact ⟨q+1,by omega,by omega,by go_num,fC,fD,fE,fF,fG,fH,fI,cW,iZ,jA⟩
     case measure=>simp[intOf];omega
    ·
     obtain rfl:q=4:=by omega
     have e4:((4:Nat):Int)=4:=rfl;rw[e4];clear e4;go_wp2_with fail;have jP:=Gr wr;refine Gd (fun W=>Bk W (w.heap.size) 23 (c8 n)∧Bk W (w.heap.size+2) 23 (c8 mm)∧Bk W (p5) 138 (C9 M7)) ?_;refine Ec (A:=?kG) [1,2,6,8,9,13] ⟨(aB.drew),(aC.drew),(aE.drew)⟩ (fun W hW=>?jB) ?kH;case jB=>have f1:=Bk.row8 (n:=32) (hW.1) (hn);have f6:=Bk.row64 (n:=5) (hW.2.2) (Z2);have f8:=Bk.row8 (n:=32) (hW.2.1) (hmm);exact Fo
     refine M8 [zv 0 30 (J3 (Ek 4 (Dn n p mm m)).row),zv 3 33 (.int .u8 ((dg n s:Nat):Int)),zv 4 34 (.pointer (some ⟨p9,(dg n s)*20,none⟩)),zv 5 35 (J3 (U5 (Q7 F8 M7) (dg n s)).row),zv 7 37 (J3 (Ai (Ek 4 (Dn n p mm m)) (U5 (Q7 F8 M7) (dg n s)) M7).row),zv 10 40 (.int .u8 ((dg mm s:Nat):Int)),zv 11 41 (.pointer (some ⟨eS,(dg mm s)*20,none⟩)),zv 12 42 (J3 (U5 (Q7 p M7) (dg mm s)).row),zv 14 44 (J3 (Ai (Ai (Ek 4 (Dn n p mm m)) (U5 (Q7 F8 M7) (dg n s)) M7) (U5 (Q7 p M7) (dg mm s)) M7).row)] (by kernel_rfl) (fun W hW=>⟨(aB.drew.bl hW),(aC.drew.bl hW),(aE.drew.bl hW)⟩) ?fK ?fL ?fM;case fK=>exact Ng
     case fL=>
      refine (T7 ⟨?iF,(T7 ⟨?iG,(T7 ⟨?iH,(T7 ⟨?iI,(T7 ⟨?iJ,(T7 ⟨?fN,(T7 ⟨?fO,(T7 ⟨?fP,(T7 ⟨?fQ,Mh⟩)⟩)⟩)⟩)⟩)⟩)⟩)⟩)⟩);case iF=>
       intro o ho us W hW hp Q' hQ';obtain rfl:=Option.some.inj ho;clear hp ho;rw[C7]at hQ' ⊢;dsimp only[F0,J6,List.foldl,zv,za]at hQ' ⊢;simp only[Dk];have f0:=Bk.row64 (n:=20) (aA.drew.bl hW) ((Gg (Gk n p mm m) 4).row);go_wp2_with fail;exact Ep (hQ' _ _ (Below.refl _ _) rfl nofun)
      case iG=>exact Vz fun W=>Wb n hn s (by omega) W
      case iH=>intro o ho us W hW hp Q' hQ';obtain rfl:=Option.some.inj ho;have dZ:us 3=(.int .u8 ((dg n s:Nat):Int)):=hp 1 _ rfl (by kernel_rfl);clear hp ho;rw[C7]at hQ' ⊢;dsimp only[F0,J6,List.foldl,zv,za]at hQ' ⊢;simp only[Dk];rw[dZ]at hQ' ⊢;clear dZ;go_wp2_with fail;exact Ep (hQ' _ _ (Below.refl _ _) rfl nofun)
      case iI=>intro o ho us W hW hp Q' hQ';obtain rfl:=Option.some.inj ho;have iK:us 4=(.pointer (some ⟨p9,(dg n s)*20,none⟩)):=hp 2 _ rfl (by kernel_rfl);clear hp ho;rw[C7]at hQ' ⊢;dsimp only[F0,J6,List.foldl,zv,za]at hQ' ⊢;simp only[Dk];rw[iK]at hQ' ⊢;clear iK;have f5:=show J0 _ ⟨_,(dg n s)*20,none⟩ 20=some (C9 (U5 (Q7 F8 M7) (dg n s)).row) from Bk.plAt (i:=(dg n s)) (aG.drew.bl hW) (Ch Dy M7) (by simp;try omega);go_wp2_with fail;exact Ep (hQ' _ _ (Below.refl _ _) rfl nofun)
      case iJ=>intro o ho us W hW hp Q' hQ';obtain rfl:=Option.some.inj ho;have dF:us 0=(J3 (Ek 4 (Dn n p mm m)).row):=hp 0 _ rfl (by kernel_rfl);have dZ:us 3=(.int .u8 ((dg n s:Nat):Int)):=hp 1 _ rfl (by kernel_rfl);have dG:us 5=(J3 (U5 (Q7 F8 M7) (dg n s)).row):=hp 3 _ rfl (by kernel_rfl);clear hp ho;rw[C7]at hQ' ⊢;dsimp only[F0,J6,List.foldl,zv,za]at hQ' ⊢;simp only[Dk];rw[dF,dZ,dG]at hQ' ⊢;clear dF dZ dG;go_wp2_with fail;refine (Mv (Ek 4 (Dn n p mm m)) (U5 (Q7 F8 M7) (dg n s)) M7 (Gg (Gk n p mm m) 4) ((Ch Dy M7).at (dg n s)) Z2 W).mono ?_;rintro e W2 ⟨rfl,b2⟩;go_wp2_with fail;exact Ep (hQ' _ _ b2 rfl nofun)
      case fN=>intro o ho us W hW hp Q' hQ';obtain rfl:=Option.some.inj ho;have aV:us 7=(J3 (Ai (Ek 4 (Dn n p mm m)) (U5 (Q7 F8 M7) (dg n s)) M7).row):=hp 4 _ rfl (by kernel_rfl);clear hp ho;rw[C7]at hQ' ⊢;dsimp only[F0,J6,List.foldl,zv,za]at hQ' ⊢;simp only[Dk];rw[aV]at hQ' ⊢;clear aV;go_wp2_with fail;refine (Wb mm hmm s (by omega) W).mono ?_;rintro e W2 ⟨rfl,b2⟩;go_wp2_with fail;exact Ep (hQ' _ _ b2 rfl nofun)
      case fO=>intro o ho us W hW hp Q' hQ';obtain rfl:=Option.some.inj ho;have aT:us 10=(.int .u8 ((dg mm s:Nat):Int)):=hp 5 _ rfl (by kernel_rfl);clear hp ho;rw[C7]at hQ' ⊢;dsimp only[F0,J6,List.foldl,zv,za]at hQ' ⊢;simp only[Dk];rw[aT]at hQ' ⊢;clear aT;go_wp2_with fail;exact Ep (hQ' _ _ (Below.refl _ _) rfl nofun)
      case fP=>intro o ho us W hW hp Q' hQ';obtain rfl:=Option.some.inj ho;have cO:us 11=(.pointer (some ⟨eS,(dg mm s)*20,none⟩)):=hp 6 _ rfl (by kernel_rfl);clear hp ho;rw[C7]at hQ' ⊢;dsimp only[F0,J6,List.foldl,zv,za]at hQ' ⊢;simp only[Dk];rw[cO]at hQ' ⊢;clear cO;have kU:=show J0 _ ⟨_,(dg mm s)*20,none⟩ 20=some (C9 (U5 (Q7 p M7) (dg mm s)).row) from Bk.plAt (i:=(dg mm s)) (aH.drew.bl hW) (Ch hp M7) (by simp;try omega);go_wp2_with fail;exact Ep (hQ' _ _ (Below.refl _ _) rfl nofun)
      case fQ=>intro o ho us W hW hp Q' hQ';obtain rfl:=Option.some.inj ho;have aV:us 7=(J3 (Ai (Ek 4 (Dn n p mm m)) (U5 (Q7 F8 M7) (dg n s)) M7).row):=hp 4 _ rfl (by kernel_rfl);have aT:us 10=(.int .u8 ((dg mm s:Nat):Int)):=hp 5 _ rfl (by kernel_rfl);have cP:us 12=(J3 (U5 (Q7 p M7) (dg mm s)).row):=hp 7 _ rfl (by kernel_rfl);clear hp ho;rw[C7]at hQ' ⊢;dsimp only[F0,J6,List.foldl,zv,za]at hQ' ⊢;simp only[Dk];rw[aV,aT,cP]at hQ' ⊢;clear aV aT cP;go_wp2_with fail;refine (Mv (Ai (Ek 4 (Dn n p mm m)) (U5 (Q7 F8 M7) (dg n s)) M7) (U5 (Q7 p M7) (dg mm s)) M7 (Dw (Ek 4 (Dn n p mm m)) (U5 (Q7 F8 M7) (dg n s)) M7) ((Ch hp M7).at (dg mm s)) Z2 W).mono ?_;rintro e W2 ⟨rfl,b2⟩;go_wp2_with fail;exact Ep (hQ' _ _ b2 rfl nofun)
     case fM=>
     intro us kI jQ hg cU gK;have dF:us 0=(J3 (Ek 4 (Dn n p mm m)).row):=hg _ (Q6 0 rfl);have dZ:us 3=(.int .u8 ((dg n s:Nat):Int)):=hg _ (Q6 1 rfl);have iK:us 4=(.pointer (some ⟨p9,(dg n s)*20,none⟩)):=hg _ (Q6 2 rfl);have dG:us 5=(J3 (U5 (Q7 F8 M7) (dg n s)).row):=hg _ (Q6 3 rfl);have aV:us 7=(J3 (Ai (Ek 4 (Dn n p mm m)) (U5 (Q7 F8 M7) (dg n s)) M7).row):=hg _ (Q6 4 rfl);have aT:us 10=(.int .u8 ((dg mm s:Nat):Int)):=hg _ (Q6 5 rfl);have cO:us 11=(.pointer (some ⟨eS,(dg mm s)*20,none⟩)):=hg _ (Q6 6 rfl);have cP:us 12=(J3 (U5 (Q7 p M7) (dg mm s)).row):=hg _ (Q6 7 rfl);have iL:us 14=(J3 (Ai (Ai (Ek 4 (Dn n p mm m)) (U5 (Q7 F8 M7) (dg n s)) M7) (U5 (Q7 p M7) (dg mm s)) M7).row):=hg _ (Q6 8 rfl);have cQ:=M9 jP jQ;refine Ro ?_;rw[dF,dZ,iK,dG,aV,aT,cO,cP,iL];clear hg cU gK dF dZ iK dG aV aT cO cP iL jQ jP;have jR:=M9 dO cQ;have jS:=Nat.le_trans cV cQ.size;have eA:=aB.bl cQ;have eB:=aO.bl cQ;have eC:=aC.bl cQ;have eD:=aD.bl cQ;have eE:=aE.bl cQ;have eF:=aG.bl cQ;have eG:=aH.bl cQ;have aX:=aA.bl cQ;clear cQ dO cV aB aO aC aD aE aG aH aA;obtain⟨kJ,aK⟩:=H8 (E0 kI ⟨fY,0,none⟩ (C9 (Ai (Ai (Ek 4 (Dn n p mm m)) (U5 (Q7 F8 M7) (dg n s)) M7) (U5 (Q7 p M7) (dg mm s)) M7).row))
     have fR:Bk kJ (fY) 140 (C9 (Ai (Ai (Ek 4 (Dn n p mm m)) (U5 (Q7 F8 M7) (dg n s)) M7) (U5 (Q7 p M7) (dg mm s)) M7).row):=by rw[aK];exact Bk.put64 (aX) ((Gg (Gk n p mm m) 4).row) ((Dw (Ai (Ek 4 (Dn n p mm m)) (U5 (Q7 F8 M7) (dg n s)) M7) (U5 (Q7 p M7) (dg mm s)) M7).row)
     have eH:=M6 aK eA (by omega);have iM:=M6 aK eB (by omega);have eI:=M6 aK eC (by omega);have iN:=M6 aK eD (by omega);have eJ:=M6 aK eE (by omega);have iO:=M6 aK eF (by omega);have iP:=M6 aK eG (by omega);have kK:=Cs aK jR (by omega);have fS:=Fs 20 aX ((Gg (Gk n p mm m) 4).row);have fT:(Ai (Ai (Ek 4 (Dn n p mm m)) (U5 (Q7 F8 M7) (dg n s)) M7) (U5 (Q7 p M7) (dg mm s)) M7).row.length=20:=(Dw (Ai (Ek 4 (Dn n p mm m)) (U5 (Q7 F8 M7) (dg n s)) M7) (U5 (Q7 p M7) (dg mm s)) M7).row;refine Z3 15 fun Q' hQ'=>?_;dsimp only[F0];go_wp2_with fail;rw[←aK];refine hQ' _ _ ⟨eH,eI,eJ⟩ ?_;clear hQ' fS fT;have kL:=Jw aK jS;clear aK jR jS eA eB eC eD eE eF eG aX;refine Fq ?_;go_wp2_with fail;go_roundw;case rel=>exact ⟨m+1,by omega,by omega,by rw[←ES.out];all_goals (simp<;>omega),eH,iM,eI,iN,eJ,iO,iP,(by rw[HM.out];exact fR),kK,kL⟩
     case measure=>have:=ES.out;simp[intOf]<;>omega
  ·
   obtain rfl:m=64:=by omega
   obtain⟨kV,cR⟩:=H8 (E0 wr ⟨w.heap.size+3,0,none⟩ (C9 (Dn n p mm 64).row));have fU:=Gp 20 cR aD (by simp) ((Gk n p mm 64).row);have jC:=Cs cR dO (by omega);have kM:=Bk.row64 (n:=20) (aA) ((Gk n p mm 64).row);have fV:=Fs 20 aD (by simp);have aU:(Dn n p mm 64).row.length=20:=(Gk n p mm 64).row;go_wp2_with fail;rw[←cR];clear kM fV aU;have kN:=Jw cR cV;clear cR cV;have jD:(Dn n p mm 64).row.length=20:=(Gk n p mm 64).row;refine bodyPost_ret (E5 rfl _ _ _ _ _ _ rfl fU Bg rfl (by simp[Ey,jD])) rfl ⟨rfl,jC⟩
theorem E7g (x y:UInt8):Op.intArith .sub .u8 (n8 x) (n8 y)=pure (.int .u8 (n8 (x-y))):=by
 unfold Op.intArith n8;have hx:=lt8 x;have hy:=lt8 y;have e:IntKind.u8.wrap ((x.toNat:Int)-(y.toNat:Int))=(((256-y.toNat+x.toNat) % 256:Nat):Int):=by
  simp only[IntKind.wrap,IntKind.bits,IntKind.signed,Bool.false_and,Bool.false_eq_true,if_false];omega
 rw[e,UInt8.toNat_sub]
@[go_sem ↓ high] theorem F0g (x : UInt8) : Op.intArith .sub .u8 (n8 x) 97 = pure (.int .u8 (n8 (x - 97))) := E7g x 97
@[go_sem ↓ high] theorem E9r (x : UInt8) : Op.intArith .sub .u8 (n8 x) 48 = pure (.int .u8 (n8 (x - 48))) := E7g x 48
@[go_sem ↓ high] theorem E9k (x : UInt8) : Op.intArith .add .u8 (n8 x) 10 = pure (.int .u8 (n8 (x + 10))) := F2m x 10
def Va (c:UInt8):UInt8:=if 97≤c.toNat then c-97+10 else c-48
theorem A4p (c:UInt8) (w:World):Calls Tryz.prog 147 #[.int .u8 (n8 c)] w fun e w'=>e=.returned (.int .u8 (n8 (Va c)))∧Below w.heap.size w w':=by
 by_cases h:97≤c.toNat
 ·have h1:97≤n8 c:=by unfold n8;omega
  have HN:Hid (Va c=c-97+10):=Lib.hid (if_pos h);clear h;go_enter Tryz.func147,Tryz.ntmps147;go_wp2_with fail;go_ret;exact ⟨by rw[HN.out];rfl,Below.refl _ _⟩
 ·have h1:n8 c<97:=by unfold n8;omega
  have HN:Hid (Va c=c-48):=Lib.hid (if_neg h);clear h;go_enter Tryz.func147,Tryz.ntmps147;go_wp2_with fail;go_ret;exact ⟨by rw[HN.out];rfl,Below.refl _ _⟩
noncomputable def A1i:ByteArray:=match Tryz.f146.body with
 | some (.seq _ (.seq (.region _ ops _) _))=>(match ops[0]? with
  | some o=>(match o.op with | .assign (.const (.string b))=>b | _=>⟨#[]⟩)
  | none=>⟨#[]⟩)
 | _=>⟨#[]⟩
noncomputable def Ac:List UInt8:=A1i.data.toList
theorem A5q:Ac.length=4096:=by kernel_rfl
theorem B4l : Tryz.f146.body = some (Code.seq (Code.region 0 #[{ dst := some 0, op := .assign (.const (.string ⟨#[]⟩)), type := 9, pos := "curve.go:119", after := #[], guard := none }] false)
 (Code.seq (Code.region 1 #[{ dst := some 0, op := .assign (.const (.string A1i)), type := 9, pos := "curve.go:120", after := #[], guard := none }] false) Code.ret)) := by kernel_rfl
theorem C6y:Value.string A1i=S8 Ac:=rfl
attribute [irreducible] A1i Ac
theorem C0p (w:World):Calls Tryz.prog 146 #[] w fun e w'=>e=.returned (S8 Ac)∧Below w.heap.size w w':=by
 refine calls_of_wp Tryz.func146 B4l ?_;simp only[Tryz.ntmps146,List.size_toArray,List.length_cons,List.length_nil,Nat.reduceAdd,Nat.reduceSub,Array.replicate_succ,
  Array.replicate_zero,List.push_toArray,List.append_toArray,List.nil_append,List.cons_append]
 have HS:=Lib.hid C6y;go_wp2_with fail;go_ret;exact ⟨by rw[←HS.out];rfl,Below.refl _ _⟩
def D6x (w:World) (raw:Result Next):Value→Value→Result Next
 | .string s,.int _ i=>if 0≤i∧i<s.data.toList.length then .ok (.value (.int .u8 (n8 (g8 s.data.toList i.toNat)))) w else raw
 | _,_=>raw
@[go_sem] theorem E9c (w : World) (raw : Result Next) (l : List UInt8) (k : IntKind) (i : Int) : D6x w raw (S8 l) (.int k i) = if 0 ≤ i ∧ i < l.length then .ok (.value (.int .u8 (n8 (g8 l i.toNat)))) w else raw := rfl
@[go_sem ↓ high] theorem E0n (w : World) (ρ : Operand → Value) (dst : Option Tmp) (ty : TypeId) (pos : String) (after : Array Edge) (guard : Option (Nat × Bool)) (x ix : Operand) :
 (execOp ρ { dst,op:=.index 9 x ix,type:=ty,pos,after,guard }).run Tryz.prog w=D6x w (T9 Tryz.prog ρ { dst,op:=.index 9 x ix,type:=ty,pos,after,guard } w) (ρ x) (ρ ix):=by
 generalize hv:ρ x=v;generalize hz:ρ ix=z;unfold D6x;split
 ·rename_i s kk i
  split
  ·rename_i hc
   have hs:s.size=s.data.toList.length:=rfl;have hi:0≤i∧i<s.size:=by omega
   have e1:=run_index_string (P:=Tryz.prog) w 9 s kk i Tryz.underlying9;rw[dif_pos hi]at e1;simp only[execOp,hv,hz,Sem.run_bind,e1,Result.andThen_ok,Sem.run_pure];have e2:((s[i.toNat]'(by omega)).toNat:Int)=n8 (g8 s.data.toList i.toNat):=by
    have hl:i.toNat<s.data.toList.length:=by omega
    unfold g8 n8;rw[List.getD_eq_getElem?_getD,List.getElem?_eq_getElem hl];show ((s.data[i.toNat]'(by omega)).toNat:Int)=_;simp
   rw[e2]
  ·rfl
 ·rfl
theorem D0o:((Tryz.prog.info? 226).bind (·.zero))=some (A8 (z8 64)):=by kernel_rfl
@[go_sem ↓ high] theorem E7s:RA' 226 (c8 (z8 64)).toArray:=fun w ρ dst ty pos after guard=>Z5 w ρ dst ty pos after guard 226 (A8 (z8 64)) D0o
def I7 (l:List UInt8) (o:Nat):List UInt8:=(l.drop o).take 32
theorem Mi {l:List UInt8} (hl:l.length=64) (o:Nat) (ho:o≤32):(I7 l o).length=32:=by unfold I7;simp;omega
theorem Bk.xyAt {w:World} {g:Nat} {t:TypeId} {l:List UInt8} (K:Bk w g t (c8 l)) (hl:l.length=64) (o:Nat) (ho:o≤32):J0 w ⟨g,o,none⟩ 32=some (c8 (I7 l o)):=by
 unfold I7;rw[K.rowMid o 32 (by simp;omega)];simp[c8]
noncomputable def Ft (i k:Nat):UInt8:=Va (g8 Ac (128*i+2*k)) <<< 4 ||| Va (g8 Ac (128*i+2*k+1))
noncomputable def B9a (i:Nat):List UInt8:=Mj (Ft i) 64 64
noncomputable def Pg (i:Nat):Pn:=Aj (C6 (I7 (B9a i) 0)) (C6 (I7 (B9a i) 32))
theorem Qh (i:Nat):(Pg i).Ok:=Az (H9 _) (H9 _)
theorem C7h {i:Nat} (h:i<32):(Cd Pg 32 i).set i (Aj (C6 (I7 (Mj (Ft i) 64 64) 0)) (C6 (I7 (Mj (Ft i) 64 64) 32)))=Cd Pg 32 (i+1):=Yk h rfl
noncomputable def Pd:List Pn:=Cd Pg 32 32
theorem Ml:Lw Pd:=Dh Qh 32 32
@[simp, go_sem] theorem A9s : Pd.length = 32 := A0k _ _ _
theorem D3f {i:Nat} (hi:i<32):U5 Pd i=Pg i:=by unfold Pd;rw[A1f hi,if_pos hi]
theorem B5v (w:World):Calls Tryz.prog 126 #[] w fun e w'=>e=.returned (J3 (Pl Pd))∧Below w.heap.size w w':=by
 obtain⟨W0,cN⟩:=H8 ((w.alloc (Obj.cells (C9 (K9 640)).toArray 205)));have hL:W0=O9 w [(205,(C9 (K9 640)))]:=cN;have B0:=Li hL;have bJ:=Me hL rfl;have z0:=ZL' 1 hL rfl;have cW:=SL' 1 hL rfl;clear hL;obtain⟨V1,bH⟩:=H8 (W0.alloc (Obj.cells (C9 (K9 640)).toArray 205));have cX:W0.heap.size=w.heap.size+1:=cW;have aJ:Bk V1 (w.heap.size+1) 205 (C9 (K9 640)):=by rw[bH,←cX];exact Bk.new W0 _ _
 have aS:=Bu bH bJ;have cY:=Mx bH B0;clear cX;go_enter Tryz.func126,Tryz.ntmps126;go_wp2_with fail;rw[←cN,←bH];have cZ:=ZA' bH z0;clear cN bH cW bJ B0 z0;rw[←D8o Pg]at aJ;go_wp2_with fail;refine (C0p V1).mono ?_;rintro e W2 ⟨rfl,b3⟩;have B2:=M9 cY b3;have z2:=Nat.le_trans cZ b3.size;have bK:=aS.bl b3;have bL:=aJ.bl b3;clear b3 cY cZ aS aJ;go_wp2_with fail;go_loopw [8] (fun x8 wr=>∃i:Nat,0≤i∧i≤32∧x8=.int .i64 (i:Int)∧Bk wr (w.heap.size) 205 (C9 (K9 640))∧Bk wr (w.heap.size+1) 205 (C9 (Pl (Cd Pg 32 i)))∧Below w.heap.size w wr∧w.heap.size+1≤wr.heap.size) (fun x8 _=>32-(intOf x8).toNat)
 case atStart=>exact ⟨0,by omega,by omega,rfl,bK,bL,B2,z2⟩
 case round=>
  clear B2 z2 bK bL;obtain⟨i,eL,hi,rfl,aB,aC,aX,aP⟩:=hrel;by_cases hlti:i<32
  ·
   have eM:decide ((i:Int)<32)=true:=decide_eq_true (by omega);obtain⟨V4,aY⟩:=H8 (wr.alloc (Obj.cells (c8 (z8 64)).toArray 226));have bM:wr.heap.size=wr.heap.size:=rfl;have aH:Bk V4 (wr.heap.size) 226 (c8 (z8 64)):=by rw[aY,←bM];exact Bk.new wr _ _
   have aT:=Bu aY aB;have aU:=Bu aY aC;have dC:=Mx aY aX;have aK:=Ce bM aB;have aL:=Ce bM aC;have bN:w.heap.size+1≤wr.heap.size:=by rw[←bM];exact Nat.le_trans aP (Nat.le_refl _)
   clear bM;go_wp2_with fail;rw[←aY];obtain⟨p5,cO⟩:=H8 (wr.heap.size);rw[←cO]at aH aK aL bN;try rw[←cO]
   have dD:=ZA' aY aP;clear aY cO aP;rw[←Zo (f:=Ft i)]at aH;go_wp2_with fail;go_loopw [11] (fun x11 wr=>∃k:Nat,0≤k∧k≤64∧x11=.int .i64 (k:Int)∧Bk wr (w.heap.size) 205 (C9 (K9 640))∧Bk wr (w.heap.size+1) 205 (C9 (Pl (Cd Pg 32 i)))∧Bk wr (p5) 226 (c8 (Mj (Ft i) 64 k))∧Below w.heap.size w wr∧w.heap.size+1≤wr.heap.size) (fun x11 _=>64-(intOf x11).toNat)
   case atStart=>exact ⟨0,by omega,by omega,rfl,aT,aU,aH,dC,dD⟩
   case round=>
    clear dC dD aT aU aH;obtain⟨k,eN,hk,rfl,aB,aC,aD,aX,aP⟩:=hrel;by_cases hltk:k<64
    ·
     have eO:decide ((k:Int)<64)=true:=decide_eq_true (by omega);obtain⟨aA,bO⟩:=H8 (128*i+2*k);have eP:128*(i:Int)+2*(k:Int)=(aA:Int):=by omega
     have dS:((aA:Int)+1).toNat=aA+1:=by omega
     have dT:=A5q;have eQ:aA+1<Ac.length:=by omega
     have dU:(aA:Int)+1<(Ac.length:Int):=by omega
     have dF:(aA:Int)<(Ac.length:Int):=by omega
     obtain⟨qq,dW⟩:=H8 (k / 32);obtain⟨rr,dX⟩:=H8 (k % 32);have eS:(k:Int) / 32=(qq:Int):=by omega
     have eT:(k:Int) % 32=(rr:Int):=by omega
     have dY:Int.tmod (k:Int) 32=(rr:Int):=by rw[Int.tmod_eq_emod_of_nonneg (by omega)];omega
     have dZ:qq<2:=by omega
     have eA:rr<32:=by omega
     have dG:qq*32+rr=k:=by omega
     have eB:=Lib.hid dG;have HA:Hid (Ft i k=Va (g8 Ac aA) <<< 4 ||| Va (g8 Ac (aA+1))):=Lib.hid (by rw[bO];rfl);clear bO dW dX dT dG;go_wp2_with fail;have S6:=Gr wr;refine Gd (fun W=>True) ?_;refine Ec (A:=?eU) [0,1,2,3,4,5,6,9,10,11,12,15] trivial (fun W hW=>?eC) ?eV;case eC=>exact Fo
     refine M8 [zv 7 26 (.int .u8 (n8 (Va (g8 Ac aA)))),zv 8 27 (.int .u8 (n8 (Va (g8 Ac aA) <<< 4))),zv 13 32 (.int .u8 (n8 (Va (g8 Ac (aA+1))))),zv 14 33 (.int .u8 (n8 (Va (g8 Ac aA) <<< 4 ||| Va (g8 Ac (aA+1))))),zv 16 35 (.pointer (some ⟨p5,qq*32+rr,none⟩))] (by kernel_rfl) (fun W hW=>trivial) ?bP ?bQ ?bR;case bP=>exact Ng
     case bQ=>
      refine (T7 ⟨?cP,(T7 ⟨?cQ,(T7 ⟨?bS,(T7 ⟨?bT,(T7 ⟨?bU,Mh⟩)⟩)⟩)⟩)⟩);case cP=>
       exact Vz fun W=>A4p (g8 Ac aA) W
      case cQ=>intro o ho us W hW hp Q' hQ';obtain rfl:=Option.some.inj ho;have aI:us 7=(.int .u8 (n8 (Va (g8 Ac aA)))):=hp 0 _ rfl (by kernel_rfl);clear hp ho;rw[C7]at hQ' ⊢;dsimp only[F0,J6,List.foldl,zv,za]at hQ' ⊢;simp only[Dk];rw[aI]at hQ' ⊢;clear aI;go_wp2_with fail;exact Ep (hQ' _ _ (Below.refl _ _) rfl nofun)
      case bS=>exact Lx fun W=>A4p (g8 Ac (aA+1)) W
      case bT=>intro o ho us W hW hp Q' hQ';obtain rfl:=Option.some.inj ho;have aM:us 8=(.int .u8 (n8 (Va (g8 Ac aA) <<< 4))):=hp 1 _ rfl (by kernel_rfl);have aE:us 13=(.int .u8 (n8 (Va (g8 Ac (aA+1))))):=hp 2 _ rfl (by kernel_rfl);clear hp ho;rw[C7]at hQ' ⊢;dsimp only[F0,J6,List.foldl,zv,za]at hQ' ⊢;simp only[Dk];rw[aM,aE]at hQ' ⊢;clear aM aE;go_wp2_with fail;exact Ep (hQ' _ _ (Below.refl _ _) rfl nofun)
      case bU=>intro o ho us W hW hp Q' hQ';obtain rfl:=Option.some.inj ho;have aI:us 7=(.int .u8 (n8 (Va (g8 Ac aA)))):=hp 0 _ rfl (by kernel_rfl);have aM:us 8=(.int .u8 (n8 (Va (g8 Ac aA) <<< 4))):=hp 1 _ rfl (by kernel_rfl);have aE:us 13=(.int .u8 (n8 (Va (g8 Ac (aA+1))))):=hp 2 _ rfl (by kernel_rfl);have aN:us 14=(.int .u8 (n8 (Va (g8 Ac aA) <<< 4 ||| Va (g8 Ac (aA+1))))):=hp 3 _ rfl (by kernel_rfl);clear hp ho;rw[C7]at hQ' ⊢;dsimp only[F0,J6,List.foldl,zv,za]at hQ' ⊢;simp only[Dk];rw[aI,aM,aE,aN]at hQ' ⊢;clear aI aM aE aN;go_wp2_with fail;exact Ep (hQ' _ _ (Below.refl _ _) rfl nofun)
     case bR=>
     intro us W7 b8 hg aZ cR;have aI:us 7=(.int .u8 (n8 (Va (g8 Ac aA)))):=hg _ (Q6 0 rfl);have aM:us 8=(.int .u8 (n8 (Va (g8 Ac aA) <<< 4))):=hg _ (Q6 1 rfl);have aE:us 13=(.int .u8 (n8 (Va (g8 Ac (aA+1))))):=hg _ (Q6 2 rfl);have aN:us 14=(.int .u8 (n8 (Va (g8 Ac aA) <<< 4 ||| Va (g8 Ac (aA+1))))):=hg _ (Q6 3 rfl);have bV:us 16=(.pointer (some ⟨p5,qq*32+rr,none⟩)):=hg _ (Q6 4 rfl);have b9:=M9 S6 b8;refine Ro ?_;rw[aI,aM,aE,aN,bV];clear hg aZ cR aI aM aE aN bV b8 S6;have B7:=M9 aX b9;have z7:=Nat.le_trans aP b9.size;have bX:=aB.bl b9;have bY:=aC.bl b9;have aQ:=aD.bl b9;clear b9 aX aP aB aC aD;obtain⟨dI,aF⟩:=H8 (W7.setCell ⟨p5,qq*32+rr,none⟩ (.int .u8 (n8 (Va (g8 Ac aA) <<< 4 ||| Va (g8 Ac (aA+1))))));have bZ:Bk dI (p5) 226 (c8 ((Mj (Ft i) 64 k).set (qq*32+rr) (Va (g8 Ac aA) <<< 4 ||| Va (g8 Ac (aA+1))))):=by have:=aQ.set_ (qq*32+rr) (.int .u8 (n8 (Va (g8 Ac aA) <<< 4 ||| Va (g8 Ac (aA+1)))));rw[Gz]at this;rw[aF];exact this
     have cA:=KS' aF bX (by omega);have cB:=KS' aF bY (by omega);have eD:=BS' aF B7 (by omega);have cC:=(aQ).at_ (Fl (l:=(Mj (Ft i) 64 k)) (i:=qq*32+rr) (by have hh:(Mj (Ft i) 64 k).length=64:=(Kv (Ft i) 64 k);omega));have cD:=(aQ).frozen (qq*32+rr);refine Z3 17 fun Q' hQ'=>?_;dsimp only[F0];go_wp2_with fail;rw[←aF];refine hQ' _ _ trivial ?_;clear hQ' cC cD;have eE:w.heap.size+1≤dI.heap.size:=by have hz:=z7;rw[aF];simp[World.setCell];omega
     clear aF B7 z7 bX bY aQ;refine Fq ?_;go_wp2_with fail;go_roundw;case rel=>exact ⟨k+1,by omega,by omega,by go_num,cA,cB,(by have h4:=bZ;rw[eB.out,A8b hltk HA.out.symm]at h4;exact h4),eD,eE⟩
     case measure=>simp[intOf];omega
    ·
     obtain rfl:k=64:=by omega
     have dJ:((64:Nat):Int)=64:=rfl;rw[dJ];clear dJ;go_wp2_with fail;have dK:=Gr wr;refine Gd (fun W=>Bk W (p5) 226 (c8 (Mj (Ft i) 64 64))) ?_;refine Ec (A:=?eF) [0,1,2,4,5] (aD.drew) (fun W hW=>?cS) ?eG;case cS=>have f2:=Bk.xyAt (hW) (Kv (Ft i) 64 64) 0 (by decide);have f5:=Bk.xyAt (hW) (Kv (Ft i) 64 64) 32 (by decide);exact Fo
     refine M8 [zv 3 40 (J3 (C6 (I7 (Mj (Ft i) 64 64) 0))),zv 6 43 (J3 (C6 (I7 (Mj (Ft i) 64 64) 32))),zv 7 44 (J3 (Aj (C6 (I7 (Mj (Ft i) 64 64) 0)) (C6 (I7 (Mj (Ft i) 64 64) 32))).row),zv 8 45 (.pointer (some ⟨w.heap.size+1,i*20,none⟩))] (by kernel_rfl) (fun W hW=>(aD.drew.bl hW)) ?bA ?bB ?bC;case bA=>exact Ng
     case bB=>
      refine (T7 ⟨?cE,(T7 ⟨?cF,(T7 ⟨?cG,(T7 ⟨?cH,Mh⟩)⟩)⟩)⟩);case cE=>
       exact Vz fun W=>Jv (I7 (Mj (Ft i) 64 64) 0) (Mi (Kv (Ft i) 64 64) 0 (by decide)) W
      case cF=>exact Lx fun W=>Jv (I7 (Mj (Ft i) 64 64) 32) (Mi (Kv (Ft i) 64 64) 32 (by decide)) W
      case cG=>exact B0x fun W=>Nk (C6 (I7 (Mj (Ft i) 64 64) 0)) (C6 (I7 (Mj (Ft i) 64 64) 32)) (H9 (I7 (Mj (Ft i) 64 64) 0)) (H9 (I7 (Mj (Ft i) 64 64) 32)) W
      case cH=>intro o ho us W hW hp Q' hQ';obtain rfl:=Option.some.inj ho;have cI:us 3=(J3 (C6 (I7 (Mj (Ft i) 64 64) 0))):=hp 0 _ rfl (by kernel_rfl);have cJ:us 6=(J3 (C6 (I7 (Mj (Ft i) 64 64) 32))):=hp 1 _ rfl (by kernel_rfl);have aI:us 7=(J3 (Aj (C6 (I7 (Mj (Ft i) 64 64) 0)) (C6 (I7 (Mj (Ft i) 64 64) 32))).row):=hp 2 _ rfl (by kernel_rfl);clear hp ho;rw[C7]at hQ' ⊢;dsimp only[F0,J6,List.foldl,zv,za]at hQ' ⊢;simp only[Dk];rw[cI,cJ,aI]at hQ' ⊢;clear cI cJ aI;go_wp2_with fail;exact Ep (hQ' _ _ (Below.refl _ _) rfl nofun)
     case bC=>
     intro us dL dM hg aZ cR;have cI:us 3=(J3 (C6 (I7 (Mj (Ft i) 64 64) 0))):=hg _ (Q6 0 rfl);have cJ:us 6=(J3 (C6 (I7 (Mj (Ft i) 64 64) 32))):=hg _ (Q6 1 rfl);have aI:us 7=(J3 (Aj (C6 (I7 (Mj (Ft i) 64 64) 0)) (C6 (I7 (Mj (Ft i) 64 64) 32))).row):=hg _ (Q6 2 rfl);have aM:us 8=(.pointer (some ⟨w.heap.size+1,i*20,none⟩)):=hg _ (Q6 3 rfl);have bI:=M9 dK dM;refine Ro ?_;rw[cI,cJ,aI,aM];clear hg aZ cR cI cJ aI aM dM dK;have dN:=M9 aX bI;have dO:=Nat.le_trans aP bI.size;have aV:=aB.bl bI;have aO:=aC.bl bI;have aW:=aD.bl bI;clear bI aX aP aB aC aD;obtain⟨eH,aG⟩:=H8 (E0 dL ⟨w.heap.size+1,i*20,none⟩ (C9 (Aj (C6 (I7 (Mj (Ft i) 64 64) 0)) (C6 (I7 (Mj (Ft i) 64 64) 32))).row));have cK:Bk eH (w.heap.size+1) 205 (C9 (Pl ((Cd Pg 32 i).set i (Aj (C6 (I7 (Mj (Ft i) 64 64) 0)) (C6 (I7 (Mj (Ft i) 64 64) 32)))))):=by rw[aG];exact Bk.plPut (i:=i) (aO) (Dh Qh 32 i) (by simp;try omega) (Az (H9 (I7 (Mj (Ft i) 64 64) 0)) (H9 (I7 (Mj (Ft i) 64 64) 32)))
     have cL:=M6 aG aV (by omega);have cM:=M6 aG aW (by omega);have eI:=Cs aG dN (by omega);have bD:U7 dL ⟨w.heap.size+1,i*20,none⟩ 20=true:=Bk.plCan (i:=i) (aO) (Dh Qh 32 i) (by simp;try omega);have bE:(Aj (C6 (I7 (Mj (Ft i) 64 64) 0)) (C6 (I7 (Mj (Ft i) 64 64) 32))).row.length=20:=(Az (H9 (I7 (Mj (Ft i) 64 64) 0)) (H9 (I7 (Mj (Ft i) 64 64) 32))).row;refine Z3 9 fun Q' hQ'=>?_;dsimp only[F0];go_wp2_with fail;rw[←aG];refine hQ' _ _ cM ?_;clear hQ' bD bE;have eJ:=Jw aG dO;clear aG dN dO aV aO aW;refine Fq ?_;go_wp2_with fail;go_roundw;case rel=>exact ⟨i+1,by omega,by omega,by go_num,cL,(by have h1:=cK;rw[C7h hlti]at h1;exact h1),eI,eJ⟩
     case measure=>simp[intOf];omega
  ·
   obtain rfl:i=32:=by omega
   have dQ:((32:Nat):Int)=32:=rfl;rw[dQ];clear dQ;obtain⟨eX,aR⟩:=H8 (E0 wr ⟨w.heap.size,0,none⟩ (C9 (Pl (Cd Pg 32 32))));have bF:=Gp 640 aR aB (by simp) (by rw[Z9 (Dh Qh 32 32)];simp);have cT:=Cs aR aX (by omega);have eK:=Bk.row64 (n:=640) (aC) ((show (Pl (Cd Pg 32 32)).length=640 from by rw[Z9 (Dh Qh 32 32)];simp));have bG:=Fs 640 aB (by simp);have cU:(Pl (Cd Pg 32 32)).length=640:=(show (Pl (Cd Pg 32 32)).length=640 from by rw[Z9 (Dh Qh 32 32)];simp);go_wp2_with fail;rw[←aR];clear eK bG cU;clear aR aP;have cV:(Pl (Cd Pg 32 32)).length=640:=(show (Pl (Cd Pg 32 32)).length=640 from by rw[Z9 (Dh Qh 32 32)];simp);refine bodyPost_ret (E5 rfl _ _ _ _ _ _ rfl bF Tryz.underlying205 rfl (by simp[A2j,cV])) rfl ⟨rfl,cT⟩
noncomputable def D2o (n:Nat) (w:World) (raw:Result Next) (v z:Value):Result Next:=match A0x v,z with
 | some l,.int _ i=>if l.length=n*20∧0≤i∧i<n then .ok (.value (J3 ((l.drop (i.toNat*20)).take 20))) w else raw
 | _,_=>raw
@[go_sem] theorem F0o (n : Nat) (w : World) (raw : Result Next) (ps : List Pn) (h : Lw ps) (hl : ps.length = n) (k : IntKind) (i : Nat) (hi : i < n) : D2o n w raw (J3 (Pl ps)) (.int k (i : Int)) = .ok (.value (J3 (U5 ps i).row)) w := by
 have h1:=Z9 h;have h2:=C6k i h (by omega);unfold D2o;rw[Ru];show (if (Pl ps).length=n*20∧0≤(i:Int)∧(i:Int)<n then Result.ok (.value (J3 (((Pl ps).drop ((i:Int).toNat*20)).take 20))) w else raw)=_;rw[if_pos ⟨by omega,by omega,by omega⟩,Int.toNat_natCast,h2];rfl
theorem B8d (w:World):(sizeOf 140).run Tryz.prog w=.ok 20 w:=by kernel_rfl
theorem D0k (xs:List UInt64) (o:Nat) (w:World):(part 140 (C9 xs).toArray o).run Tryz.prog w=.ok (J3 ((xs.drop o).take 20)) w:=by
 simp[part,isAgg,run_underlying Bg,B8d,J3,C9,List.extract_eq_take_drop]
@[go_sem ↓ high] theorem E0f (w : World) (ρ : Operand → Value) (dst : Option Tmp) (ty : TypeId) (pos : String) (after : Array Edge) (guard : Option (Nat × Bool)) (x ix : Operand) :
 (execOp ρ { dst,op:=.index 205 x ix,type:=ty,pos,after,guard }).run Tryz.prog w=D2o 32 w (T9 Tryz.prog ρ { dst,op:=.index 205 x ix,type:=ty,pos,after,guard } w) (ρ x) (ρ ix):=by
 generalize hv:ρ x=v;generalize hz:ρ ix=z;unfold D2o;split
 ·rename_i l k i h1
  replace h1:=Jz h1;split
  ·rename_i hc
   obtain⟨h2,h3,h4⟩:=hc;subst h1;have h5:i<32:=by omega
   have h6:¬ 32≤i:=by omega
   have e1:(part 140 (C9 l).toArray (i.toNat*20)).run Tryz.prog w=.ok (J3 ((l.drop (i.toNat*20)).take 20)) w:=D0k l _ w;simp[execOp,hv,hz,J3,Instr.index,run_underlying Tryz.underlying205,asIntOf,h3,h4,h5,h6,B8d,e1]
  ·rfl
 ·rfl
def C1h (n:List UInt8) (i s:Nat):Bool:=g8 n i >>> UInt8.ofNat s &&& 1==1
noncomputable def Ed (n:List UInt8) (s:Nat) (r:Pn):Nat→Pn
 | 0=>r
 | i+1=>if C1h n i s then Ai (Ed n s r i) (Pg i) M7 else Ed n s r i
theorem Kx (n:List UInt8) (s:Nat) {r:Pn} (hr:r.Ok):∀i,(Ed n s r i).Ok
 | 0=>hr
 | i+1=>by
  unfold Ed;split
  ·exact Dw _ _ _
  ·exact Kx n s hr i
theorem B2v {n:List UInt8} {s:Nat} {r:Pn} {i:Nat} (hb:C1h n i s=true) (hi:i<32):Ed n s r (i+1)=Ai (Ed n s r i) (U5 Pd i) M7:=by
 rw[D3f hi];exact if_pos hb
theorem B5c {n:List UInt8} {s:Nat} {r:Pn} {i:Nat} (hb:C1h n i s=false):Ed n s r (i+1)=Ed n s r i:=if_neg (by rw[hb];decide)
noncomputable def Cw (n:List UInt8):Nat→Pn
 | 0=>E3 Ea
 | m+1=>Ed n (7-m) (Mg (Cw n m)) 32
theorem Iw (n:List UInt8):∀m,(Cw n m).Ok
 | 0=>N8 Gm
 | m+1=>Kx n _ (Jl _) 32
noncomputable def Tn (n:List UInt8):Pn:=Cw n 8
theorem Tz (n:List UInt8):(Tn n).Ok:=Iw n 8
theorem C2n (n:List UInt8) (hn:n.length=32) (w:World):Calls Tryz.prog 94 #[A8 n] w fun e w'=>e=.returned (J3 (Tn n).row)∧Below w.heap.size w w':=by
 have iB:=Ml;have iC:=A9s;obtain⟨W0,fO⟩:=H8 (((w.alloc (Obj.cells (c8 n).toArray 23)).alloc (Obj.cells (C9 (K9 20)).toArray 140)));have hL:W0=O9 w [(23,(c8 n)),(140,(C9 (K9 20)))]:=fO;have B0:=Li hL;have fC:=Me hL rfl;have fD:=Jh 1 hL rfl;have z0:=ZL' 2 hL rfl;clear hL;go_enter Tryz.func94,Tryz.ntmps94;go_wp2_with fail;rw[←fO];clear fO;refine (Xs W0).mono ?_;rintro e W1 ⟨rfl,b2⟩;have B1:=M9 B0 b2;have z1:=Nat.le_trans z0 b2.size;have dW:=fC.bl b2;have dX:=fD.bl b2;clear b2 B0 z0 fC fD;obtain⟨V3,cP⟩:=H8 (W1.alloc (Obj.cells (C9 (K9 5)).toArray 138));have fE:W1.heap.size=W1.heap.size:=rfl;have bE:Bk V3 (W1.heap.size) 138 (C9 (K9 5)):=by rw[cP,←fE];exact Bk.new W1 _ _
 have cQ:=Bu cP dW;have cR:=Bu cP dX;have fX:=Mx cP B1;have bF:=Ce fE dW;have bG:=Ce fE dX;have fF:w.heap.size+2≤W1.heap.size:=by rw[←fE];exact Nat.le_trans z1 (Nat.le_refl _)
 clear fE;obtain⟨V4,dY⟩:=H8 (E0 V3 ⟨W1.heap.size,0,none⟩ (C9 M7));have bH:=Gp 5 dY bE (by simp) Z2;have cS:=M6 dY cQ (by omega);have cT:=M6 dY cR (by omega);have fY:=Cs dY fX (by omega);have cU:=Fs 5 bE (by simp);rw[cP]at cU;have aC:M7.length=5:=Z2;go_wp2_with fail;rw[←cP,←dY];clear cU aC;obtain⟨p5,fP⟩:=H8 (W1.heap.size);rw[←fP]at bH bF bG fF;try rw[←fP]
 have fZ:w.heap.size+2≤V4.heap.size:=by have hz:=z1;rw[dY,cP];first | (simp;omega) | (simp[World.setCell];omega)
 clear cP dY fP dW dX B1 z1 cQ cR bE fX;refine (B5v V4).mono ?_;rintro e W6 ⟨rfl,b7⟩;have B6:=M9 fY b7;have z6:=Nat.le_trans fZ b7.size;have dZ:=cS.bl b7;have eA:=cT.bl b7;have eB:=bH.bl b7;clear b7 fY fZ cS cT bH;obtain⟨V8,cM⟩:=H8 (W6.alloc (Obj.cells (C9 (K9 640)).toArray 205));have eY:W6.heap.size=W6.heap.size:=rfl;have bI:Bk V8 (W6.heap.size) 205 (C9 (K9 640)):=by rw[cM,←eY];exact Bk.new W6 _ _
 have cV:=Bu cM dZ;have cW:=Bu cM eA;have cX:=Bu cM eB;have gA:=Mx cM B6;have bJ:=Ce eY dZ;have bK:=Ce eY eA;have bL:=Ce eY eB;have fG:w.heap.size+2≤W6.heap.size:=by rw[←eY];exact Nat.le_trans z6 (Nat.le_refl _)
 clear eY;obtain⟨V9,cY⟩:=H8 (E0 V8 ⟨W6.heap.size,0,none⟩ (C9 (Pl Pd)));have bM:=Gp 640 cY bI (by simp) (by rw[Z9 Ml];simp);have cZ:=M6 cY cV (by omega);have dC:=M6 cY cW (by omega);have dD:=M6 cY cX (by omega);have gC:=Cs cY gA (by omega);have dF:=Fs 640 bI (by simp);rw[cM]at dF;have aC:(Pl Pd).length=640:=(show (Pl Pd).length=640 from by rw[Z9 Ml];simp);go_wp2_with fail;rw[←cM,←cY];clear dF aC;obtain⟨gF,eC⟩:=H8 (W6.heap.size);rw[←eC]at bM bJ bK bL fG;try rw[←eC]
 have gG:w.heap.size+2≤V9.heap.size:=by have hz:=z6;rw[cY,cM];first | (simp;omega) | (simp[World.setCell];omega)
 clear cM cY eC dZ eA eB B6 z6 cV cW cX bI gA;refine (Ku Ea Gm V9).mono ?_;rintro e dG ⟨rfl,eD⟩;have gH:=M9 gC eD;have fQ:=Nat.le_trans gG eD.size;have bN:=cZ.bl eD;have bO:=dC.bl eD;have bP:=dD.bl eD;have bQ:=bM.bl eD;clear eD gC gG cZ dC dD bM;obtain⟨gI,aH⟩:=H8 (dG.alloc (Obj.cells (C9 (K9 20)).toArray 140));have aX:dG.heap.size=dG.heap.size:=rfl;have aY:Bk gI (dG.heap.size) 140 (C9 (K9 20)):=by rw[aH,←aX];exact Bk.new dG _ _
 have bR:=Bu aH bN;have bS:=Bu aH bO;have bT:=Bu aH bP;have bU:=Bu aH bQ;have fH:=Mx aH gH;have bV:=Ce aX bN;have bX:=Ce aX bO;have bY:=Ce aX bP;have bZ:=Ce aX bQ;have fI:w.heap.size+2≤dG.heap.size:=by rw[←aX];exact Nat.le_trans fQ (Nat.le_refl _)
 clear aX;obtain⟨gS,aM⟩:=H8 (E0 gI ⟨dG.heap.size,0,none⟩ (C9 (E3 Ea).row));have aZ:=Gp 20 aM aY (by simp) ((N8 Gm).row);have cA:=M6 aM bR (by omega);have cB:=M6 aM bS (by omega);have cC:=M6 aM bT (by omega);have cD:=M6 aM bU (by omega);have fJ:=Cs aM fH (by omega);have cE:=Fs 20 aY (by simp);rw[aH]at cE;have aC:(E3 Ea).row.length=20:=(N8 Gm).row;go_wp2_with fail;rw[←aH,←aM];clear cE aC;obtain⟨eZ,eE⟩:=H8 (dG.heap.size);rw[←eE]at aZ bV bX bY bZ fI;try rw[←eE]
 have fK:w.heap.size+2≤gS.heap.size:=by have hz:=fQ;rw[aM,aH];first | (simp;omega) | (simp[World.setCell];omega)
 clear aH aM eE bN bO bP bQ gH fQ bR bS bT bU aY fH;go_loopw [6] (fun x6 wr=>∃m:Nat,0≤m∧m≤8∧x6=.int .i64 (7-(m:Int))∧Bk wr (w.heap.size) 23 (c8 n)∧Bk wr (w.heap.size+1) 140 (C9 (K9 20))∧Bk wr (p5) 138 (C9 M7)∧Bk wr (gF) 205 (C9 (Pl Pd))∧Bk wr (eZ) 140 (C9 (Cw n m).row)∧Below w.heap.size w wr∧w.heap.size+2≤wr.heap.size) (fun x6 _=>(intOf x6+1).toNat)
 case atStart=>exact ⟨0,by omega,by omega,rfl,cA,cB,cC,cD,aZ,fJ,fK⟩
 case round=>
  clear fJ fK cA cB cC cD aZ;obtain⟨m,iD,hm,rfl,aJ,aD,aK,aL,aE,fB,cL⟩:=hrel;by_cases hltm:m<8
  ·
   obtain⟨s,hs⟩:=H8 (7-m);have es:7-(m:Int)=(s:Int):=by omega
   have gT:s<8:=by omega
   have hd:decide (0≤(s:Int))=true:=decide_eq_true (by omega);rw[es];have HM:Hid (Cw n (m+1)=Ed n s (Mg (Cw n m)) 32):=Lib.hid (by rw[hs];rfl);have ES:=Lib.hid es;clear hs es;have gU:=Bk.row64 (n:=20) (aE) ((Iw n m).row);go_wp2_with fail;clear gU;refine (Sa (Cw n m) (Iw n m) wr).mono ?_;rintro e gV ⟨rfl,dI⟩;have gJ:=M9 fB dI;have gK:=Nat.le_trans cL dI.size;have dJ:=aJ.bl dI;have dK:=aD.bl dI;have dL:=aK.bl dI;have dM:=aL.bl dI;have cF:=aE.bl dI;clear dI fB cL aJ aD aK aL aE;obtain⟨gW,aI⟩:=H8 (E0 gV ⟨eZ,0,none⟩ (C9 (Mg (Cw n m)).row));have cG:Bk gW (eZ) 140 (C9 (Mg (Cw n m)).row):=by rw[aI];exact Bk.put64 (cF) ((Iw n m).row) ((Jl (Cw n m)).row)
   have cH:=M6 aI dJ (by omega);have cI:=M6 aI dK (by omega);have cJ:=M6 aI dL (by omega);have bA:=M6 aI dM (by omega);have fL:=Cs aI gJ (by omega);have eF:=Fs 20 cF ((Iw n m).row);have Rn:=Bk.row64 (n:=640) (bA) ((show (Pl Pd).length=640 from by rw[Z9 Ml];simp));rw[aI]at Rn;have aC:(Mg (Cw n m)).row.length=20:=(Jl (Cw n m)).row;go_wp2_with fail;rw[←aI];clear eF Rn aC;have fM:=Jw aI gK;clear aI dJ dK dL dM cF gJ gK;go_loopw [20] (fun x20 wr=>∃i:Nat,0≤i∧i≤32∧x20=.int .i64 (i:Int)∧Bk wr (w.heap.size) 23 (c8 n)∧Bk wr (w.heap.size+1) 140 (C9 (K9 20))∧Bk wr (p5) 138 (C9 M7)∧Bk wr (gF) 205 (C9 (Pl Pd))∧Bk wr (eZ) 140 (C9 (Ed n s (Mg (Cw n m)) i).row)∧Below w.heap.size w wr∧w.heap.size+2≤wr.heap.size) (fun x20 _=>32-(intOf x20).toNat)
   case atStart=>exact ⟨0,by omega,by omega,rfl,cH,cI,cJ,bA,cG,fL,fM⟩
   case round=>
    clear fL fM cH cI cJ bA cG;obtain⟨i,iE,hi,rfl,aJ,aD,aK,aL,aE,fB,cL⟩:=hrel;by_cases hlti:i<32
    ·
     have iF:decide ((i:Int)<32)=true:=decide_eq_true (by omega);have iG:(n8 (g8 n i >>> UInt8.ofNat s &&& 1)==1)=C1h n i s:=Qg (x:=g8 n i >>> UInt8.ofNat s &&& 1) (y:=1);obtain⟨gL,aA⟩:=H8 (wr.alloc (Obj.cells (C9 (K9 20)).toArray 140));have aR:wr.heap.size=wr.heap.size:=rfl;have bB:Bk gL (wr.heap.size) 140 (C9 (K9 20)):=by rw[aA,←aR];exact Bk.new wr _ _
     have eG:=Bu aA aJ;have eH:=Bu aA aD;have eI:=Bu aA aK;have eJ:=Bu aA aL;have eK:=Bu aA aE;have fR:=Mx aA fB;have aS:=Ce aR aJ;have aT:=Ce aR aD;have aU:=Ce aR aK;have aV:=Ce aR aL;have aW:=Ce aR aE;have dN:w.heap.size+2≤wr.heap.size:=by rw[←aR];exact Nat.le_trans cL (Nat.le_refl _)
     clear aR;obtain⟨fS,aB⟩:=H8 (E0 gL ⟨wr.heap.size,0,none⟩ (C9 (U5 Pd i).row));have aN:=Gp 20 aB bB (by simp) ((Ml.at i).row);have aF:=M6 aB eG (by omega);have bC:=M6 aB eH (by omega);have aO:=M6 aB eI (by omega);have bD:=M6 aB eJ (by omega);have aP:=M6 aB eK (by omega);have eL:=Cs aB fR (by omega);cases hb2:C1h n i s;case false=>
      have aG:=Fs 20 bB (by simp);rw[aA]at aG;have fN:=(aF).at_ (Fl (l:=n) (i:=i) (by have hh:n.length=32:=hn;omega));rw[aB,aA]at fN;have aC:(U5 Pd i).row.length=20:=(Ml.at i).row;go_wp2_with fail;rw[←aA,←aB];clear aG fN aC;obtain⟨iH,eM⟩:=H8 (wr.heap.size);rw[←eM]at aN aS aT aU aV aW dN;try rw[←eM]
      have cN:w.heap.size+2≤fS.heap.size:=by have hz:=cL;rw[aB,aA];first | (simp;omega) | (simp[World.setCell];omega)
      clear aA aB eM cL;go_roundw;case rel=>exact ⟨i+1,by omega,by omega,by go_num,aF,bC,aO,bD,(by rw[B5c hb2];exact aP),eL,cN⟩
      case measure=>simp[intOf];omega
     case true=>
      have aG:=Fs 20 bB (by simp);rw[aA]at aG;have fN:=(aF).at_ (Fl (l:=n) (i:=i) (by have hh:n.length=32:=hn;omega));rw[aB,aA]at fN;have gM:=Bk.row64 (n:=20) (aP) ((Kx n s (Jl (Cw n m)) i).row);rw[aB,aA]at gM;have gN:=Bk.row64 (n:=20) (aN) ((Ml.at i).row);rw[aB,aA]at gN;have gO:=Bk.row64 (n:=5) (aO) (Z2);rw[aB,aA]at gO;have aC:(U5 Pd i).row.length=20:=(Ml.at i).row;go_wp2_with fail;rw[←aA,←aB];clear aG fN gM gN gO aC;obtain⟨iI,eN⟩:=H8 (wr.heap.size);rw[←eN]at aN aS aT aU aV aW dN;try rw[←eN]
      have cN:w.heap.size+2≤fS.heap.size:=by have hz:=cL;rw[aB,aA];first | (simp;omega) | (simp[World.setCell];omega)
      clear aA aB eN cL;refine (Mv (Ed n s (Mg (Cw n m)) i) (U5 Pd i) M7 (Kx n s (Jl (Cw n m)) i) (Ml.at i) Z2 fS).mono ?_;rintro e gY ⟨rfl,dO⟩;have gP:=M9 eL dO;have gQ:=Nat.le_trans cN dO.size;have dQ:=aF.bl dO;have dS:=bC.bl dO;have dT:=aO.bl dO;have dU:=bD.bl dO;have cK:=aP.bl dO;clear dO eL cN aF bC aO bD aP aN;obtain⟨gZ,aQ⟩:=H8 (E0 gY ⟨eZ,0,none⟩ (C9 (Ai (Ed n s (Mg (Cw n m)) i) (U5 Pd i) M7).row));have eO:Bk gZ (eZ) 140 (C9 (Ai (Ed n s (Mg (Cw n m)) i) (U5 Pd i) M7).row):=by rw[aQ];exact Bk.put64 (cK) ((Kx n s (Jl (Cw n m)) i).row) ((Dw (Ed n s (Mg (Cw n m)) i) (U5 Pd i) M7).row)
      have eP:=M6 aQ dQ (by omega);have eQ:=M6 aQ dS (by omega);have eS:=M6 aQ dT (by omega);have eT:=M6 aQ dU (by omega);have fT:=Cs aQ gP (by omega);have eU:=Fs 20 cK ((Kx n s (Jl (Cw n m)) i).row);have aC:(Ai (Ed n s (Mg (Cw n m)) i) (U5 Pd i) M7).row.length=20:=(Dw (Ed n s (Mg (Cw n m)) i) (U5 Pd i) M7).row;go_wp2_with fail;rw[←aQ];clear eU aC;have fU:=Jw aQ gQ;clear aQ dQ dS dT dU cK gP gQ;go_roundw;case rel=>exact ⟨i+1,by omega,by omega,by go_num,eP,eQ,eS,eT,(by rw[B2v hb2 hlti];exact eO),fT,fU⟩
      case measure=>simp[intOf];omega
    ·
     obtain rfl:i=32:=by omega
     have gR:((32:Nat):Int)=32:=rfl;rw[gR];clear gR;go_wp2_with fail;go_roundw;case rel=>exact ⟨m+1,by omega,by omega,by rw[←ES.out];all_goals (simp<;>omega),aJ,aD,aK,aL,(by rw[HM.out];exact aE),fB,cL⟩
     case measure=>have:=ES.out;simp[intOf]<;>omega
  ·
   obtain rfl:m=8:=by omega
   obtain⟨iJ,cO⟩:=H8 (E0 wr ⟨w.heap.size+1,0,none⟩ (C9 (Cw n 8).row));have eV:=Gp 20 cO aD (by simp) ((Iw n 8).row);have fV:=Cs cO fB (by omega);have iA:=Bk.row64 (n:=20) (aE) ((Iw n 8).row);have eX:=Fs 20 aD (by simp);have aC:(Cw n 8).row.length=20:=(Iw n 8).row;go_wp2_with fail;rw[←cO];clear iA eX aC;clear cO cL;have fW:(Cw n 8).row.length=20:=(Iw n 8).row;refine bodyPost_ret (E5 rfl _ _ _ _ _ _ rfl eV Bg rfl (by simp[Ey,fW])) rfl ⟨rfl,fV⟩
end Go.Proofs.YtlegpkdighoflaaGreat
