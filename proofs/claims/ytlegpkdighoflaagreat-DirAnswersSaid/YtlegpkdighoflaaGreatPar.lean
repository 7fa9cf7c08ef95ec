/- A part of the proof of DirAnswers. -/
import Derived.Test.YtlegpkdighoflaaGreatPaq
set_option linter.unusedVariables false
set_option linter.unusedSimpArgs false
set_option maxRecDepth 100000
set_option maxHeartbeats 40000000
namespace Go.Proofs.YtlegpkdighoflaaGreat
open Go Go.RowKit Sh
def Cy:Nat→Pn→Pn
 | 0,p=>p
 | q+1,p=>Kj (Cy q p)
theorem Ey {p:Pn} (hp:p.Ok):∀q,(Cy q p).Ok
 | 0=>hp
 | q+1=>Ho _
def Ci (n:List UInt8) (p:Pn) (m:List UInt8):Nat→Pn
 | 0=>Q8 (O9 E8 J7) 0
 | i+1=>X8 (X8 (Cy 4 (Ci n p m i)) (Q8 (O9 E8 J7) (dg n (63-i))) J7) (Q8 (O9 p J7) (dg m (63-i))) J7
theorem Ff (n:List UInt8) (p:Pn) (m:List UInt8):∀i,(Ci n p m i).Ok
 | 0=>(Av Cq J7).at 0
 | i+1=>Cp _ _ _
def Mc (n:List UInt8) (p:Pn) (m:List UInt8):Pn:=Ci n p m 64
theorem C1a (n:List UInt8) (p:Pn) (m:List UInt8):(Mc n p m).Ok:=Ff _ _ _ _
def Ng:Nat→Pn→Pn
 | 0,p=>p
 | q+1,p=>A6r (Ng q p) (Ng q p)
theorem Mt {p:Pn} (hp:p.Ok):∀q,(Ng q p).Ok
 | 0=>hp
 | q+1=>A6s _ _
theorem C6c (n:List UInt8) (p:Pn) (mm:List UInt8) (hn:n.length=32) (hp:p.Ok) (hmm:mm.length=32) (w:World):Calls Tryz.prog 116 #[A8 n,H9 p.row,A8 mm] w fun e w'=>e=.returned (H9 (Mc n p mm).row)∧Below w.heap.size w w':=by
 have kE:=Cq.row;obtain⟨W0,iH⟩:=F9 (((((w.alloc (Obj.cells (c8 n).toArray 23)).alloc (Obj.cells (C9 p.row).toArray 140)).alloc (Obj.cells (c8 mm).toArray 23)).alloc (Obj.cells (C9 (J2 20)).toArray 140)));have hL:W0=M9 w [(23,(c8 n)),(140,(C9 p.row)),(23,(c8 mm)),(140,(C9 (J2 20)))]:=iH;have B0:=Ki hL;have fU:=Ko hL rfl;have fV:=Ig 1 hL rfl;have fW:=Ig 2 hL rfl;have fX:=Ig 3 hL rfl;have z0:=Za 4 hL rfl;have jJ:=SL' 4 hL rfl;clear hL;go_enter Tryz.func116,Tryz.ntmps116;go_wp2_with fail;rw[←iH];clear iH jJ;refine (Vs W0).mono ?_;rintro e W1 ⟨rfl,b2⟩;have B1:=K9 B0 b2;have z1:=Nat.le_trans z0 b2.size;have eE:=fU.bl b2;have eF:=fV.bl b2;have eG:=fW.bl b2;have eH:=fX.bl b2;clear b2 B0 z0 fU fV fW fX;obtain⟨V3,cS⟩:=F9 (W1.alloc (Obj.cells (C9 (J2 5)).toArray 138));have eI:W1.heap.size=W1.heap.size:=rfl;have bL:Bk V3 (W1.heap.size) 138 (C9 (J2 5)):=by rw[cS,←eI];exact Bk.new W1 _ _
 have cX:=Ac cS eE;have cY:=Ac cS eF;have cZ:=Ac cS eG;have dB:=Ac cS eH;have iU:=Lk cS B1;have bM:=Aj eI eE;have bN:=Aj eI eF;have bO:=Aj eI eG;have bP:=Aj eI eH;have fY:w.heap.size+4≤W1.heap.size:=by rw[←eI];exact Nat.le_trans z1 (Nat.le_refl _)
 clear eI;obtain⟨V4,cT⟩:=F9 (D8 V3 ⟨W1.heap.size,0,none⟩ (C9 J7));have aL:=Fi 5 cT bL (by simp) U4;have aY:=J3 cT cX (by omega);have aQ:=J3 cT cY (by omega);have aZ:=J3 cT cZ (by omega);have bA:=J3 cT dB (by omega);have iV:=Bi cT iU (by omega);have dC:=Ee 5 bL (by simp);rw[cS]at dC;have aU:J7.length=5:=U4;go_wp2_with fail;rw[←cS,←cT];clear dC aU;obtain⟨p5,iI⟩:=F9 (W1.heap.size);rw[←iI]at aL bM bN bO bP fY;try rw[←iI]
 have iG:w.heap.size+4≤V4.heap.size:=by have hz:=z1;rw[cT,cS];first | (simp;omega) | (simp[World.setCell];omega)
 clear cS cT iI eE eF eG eH B1 z1 cX cY cZ dB bL iU;have S6:=Fx V4;refine Fa (fun W=>Bk W (w.heap.size+1) 140 (C9 p.row)∧Bk W (p5) 138 (C9 J7)) ?_;refine Df (A:=?kF) [1,3,4] ⟨(aQ.drew),(aL.drew)⟩ (fun W hW=>?jK) ?kG;case jK=>
  have f1:=Bk.row64 (n:=5) (hW.2) (U4);have f3:=Bk.row64 (n:=20) (hW.1) (hp.row);exact Ei
 refine J8 [zv 0 13 (H9 E8.row),zv 2 15 (H9 (Pl (O9 E8 J7))),zv 5 18 (H9 (Pl (O9 p J7))),za 6 8 177 (C9 (J2 320)),za 7 9 177 (C9 (J2 320))] (by kernel_rfl) (fun W hW=>⟨(aQ.drew.bl hW),(aL.drew.bl hW)⟩) ?fZ ?gA ?gB;case fZ=>exact Ln
 case gA=>
  refine (P5 ⟨?iJ,(P5 ⟨?iK,(P5 ⟨?iL,(P5 ⟨?iM,(P5 ⟨?iN,Kh⟩)⟩)⟩)⟩)⟩);case iJ=>
   exact Tq fun W=>Qi W
  case iK=>exact Jt fun W=>A0r E8 J7 Cq U4 W
  case iL=>exact A0t fun W=>A0r p J7 hp U4 W
  case iM=>exact P8 rfl rfl (fun ρ W=>A3o W ρ _ _ _ _ _)
  case iN=>exact P8 rfl rfl (fun ρ W=>A3o W ρ _ _ _ _ _)
 case gB=>
 intro us W7 b8 hg cU gC;have dD:us 0=(H9 E8.row):=hg _ (O8 0 rfl);have iW:us 2=(H9 (Pl (O9 E8 J7))):=hg _ (O8 1 rfl);have dE:us 5=(H9 (Pl (O9 p J7))):=hg _ (O8 2 rfl);obtain⟨p9,fR,eJ⟩:=hg _ (O8 3 rfl);have fR:us 6=.pointer (some ⟨p9,0,none⟩):=fR;have eK:=Cc (gC _ (O8 3 rfl) rfl) fR;obtain⟨eL,aV,gE⟩:=hg _ (O8 4 rfl);have aV:us 7=.pointer (some ⟨eL,0,none⟩):=aV;have eM:=Cc (gC _ (O8 4 rfl) rfl) aV;have fS:=Lx (cU _ (O8 3 rfl) _ (O8 4 rfl) rfl rfl (by decide)) fR aV;have dF:=K9 S6 b8;have gF:=X3 aY eK.1;have gG:=X3 aQ eK.1;have gH:=X3 aZ eK.1;have gI:=X3 bA eK.1;have gJ:=X3 aL eK.1;have iX:=Nat.le_trans iG (Nat.le_trans S6.size eK.1);clear eK;have gK:=X3 aY eM.1;have gL:=X3 aQ eM.1;have gM:=X3 aZ eM.1;have gN:=X3 bA eM.1;have gO:=X3 aL eM.1;have iY:=Nat.le_trans iG (Nat.le_trans S6.size eM.1);clear eM;refine Pv ?_;rw[dD,iW,dE,fR,aV];clear hg cU gC dD iW dE fR aV b8 S6;have B7:=K9 iV dF;have z7:=Nat.le_trans iG dF.size;have gP:=aY.bl dF;have gQ:=aQ.bl dF;have gR:=aZ.bl dF;have gS:=bA.bl dF;have gT:=aL.bl dF;clear dF iV iG aY aQ aZ bA aL;obtain⟨jL,aM⟩:=F9 (D8 W7 ⟨p9,0,none⟩ (C9 (Pl (O9 E8 J7))));have dG:=Fi 320 aM eJ (by simp) (by rw[X4 (Av Cq J7)];simp)
 have dH:=J3 aM gP (by omega);have bQ:=J3 aM gQ (by omega);have dI:=J3 aM gR (by omega);have dJ:=J3 aM gS (by omega);have bR:=J3 aM gT (by omega);have bS:=J3 aM gE (by omega);have iZ:=Bi aM B7 (by omega);have eN:=Ee 320 eJ (by simp);have eO:(Pl (O9 E8 J7)).length=320:=(show (Pl (O9 E8 J7)).length=320 from by rw[X4 (Av Cq J7)];simp);refine U7 8 fun Q' hQ'=>?_;dsimp only[F0];go_wp2_with fail;rw[←aM];refine hQ' _ _ ⟨bQ,bR⟩ ?_;clear hQ' eN eO;have jA:=Il aM z7;clear aM B7 z7 gP gQ gR gS gT eJ gE;obtain⟨dK,aN⟩:=F9 (D8 jL ⟨eL,0,none⟩ (C9 (Pl (O9 p J7))));have bT:=Fi 320 aN bS (by simp) (by rw[X4 (Av hp J7)];simp);have bU:=J3 aN dH (by omega);have bB:=J3 aN bQ (by omega);have bV:=J3 aN dI (by omega);have bX:=J3 aN dJ (by omega);have bC:=J3 aN bR (by omega);have bD:=J3 aN dG (by omega);have jB:=Bi aN iZ (by omega);have eP:=Ee 320 bS (by simp);have eQ:(Pl (O9 p J7)).length=320:=(show (Pl (O9 p J7)).length=320 from by rw[X4 (Av hp J7)];simp);refine U7 9 fun Q' hQ'=>?_;dsimp only[F0];go_wp2_with fail;rw[←aN];refine hQ' _ _ ⟨bB,bC⟩ ?_;clear hQ' eP eQ;have iO:=Il aN jA;clear aN iZ jA dH bQ dI dJ bR dG bS;refine Ef ?_
 obtain⟨jC,aF⟩:=F9 (dK.alloc (Obj.cells (C9 (J2 20)).toArray 140));have aP:dK.heap.size=dK.heap.size:=rfl;have aR:Bk jC (dK.heap.size) 140 (C9 (J2 20)):=by rw[aF,←aP];exact Bk.new dK _ _
 have bY:=Ac aF bU;have bZ:=Ac aF bB;have cA:=Ac aF bV;have cB:=Ac aF bX;have cC:=Ac aF bC;have cD:=Ac aF bD;have cE:=Ac aF bT;have gU:=Lk aF jB;have bE:=Aj aP bU;have bF:=Aj aP bB;have bG:=Aj aP bV;have bH:=Aj aP bX;have bI:=Aj aP bC;have bJ:=Aj aP bD;have bK:=Aj aP bT;have eS:w.heap.size+4≤dK.heap.size:=by rw[←aP];exact Nat.le_trans iO (Nat.le_refl _)
 clear aP;obtain⟨jM,aI⟩:=F9 (D8 jC ⟨dK.heap.size,0,none⟩ (C9 (Q8 (O9 E8 J7) 0).row));have aS:=Fi 20 aI aR (by simp) (((Av Cq J7).at 0).row);have cF:=J3 aI bY (by omega);have cG:=J3 aI bZ (by omega);have cH:=J3 aI cA (by omega);have cI:=J3 aI cB (by omega);have cJ:=J3 aI cC (by omega);have cK:=J3 aI cD (by omega);have cL:=J3 aI cE (by omega);have gV:=Bi aI gU (by omega);have jN:=show J1 _ ⟨_,0,none⟩ 20=some (C9 (Q8 (O9 E8 J7) 0).row) from Bk.plAt (i:=0) (bD) (Av Cq J7) (by simp;try omega);have cM:=Ee 20 aR (by simp);rw[aF]at cM;have aU:(Q8 (O9 E8 J7) 0).row.length=20:=((Av Cq J7).at 0).row;go_wp2_with fail;rw[←aF,←aI];clear jN cM aU;obtain⟨fT,eT⟩:=F9 (dK.heap.size);rw[←eT]at aS bE bF bG bH bI bJ bK eS;try rw[←eT]
 have gW:w.heap.size+4≤jM.heap.size:=by have hz:=iO;rw[aI,aF];first | (simp;omega) | (simp[World.setCell];omega)
 clear aF aI eT bU bB bV bX bC bD bT jB iO bY bZ cA cB cC cD cE aR gU;go_loopw [11] (fun x11 wr=>∃m:Nat,0≤m∧m≤64∧x11=.int .i64 (63-(m:Int))∧Bk wr (w.heap.size) 23 (c8 n)∧Bk wr (w.heap.size+1) 140 (C9 p.row)∧Bk wr (w.heap.size+2) 23 (c8 mm)∧Bk wr (w.heap.size+3) 140 (C9 (J2 20))∧Bk wr (p5) 138 (C9 J7)∧Bk wr (p9) 177 (C9 (Pl (O9 E8 J7)))∧Bk wr (eL) 177 (C9 (Pl (O9 p J7)))∧Bk wr (fT) 140 (C9 (Ci n p mm m).row)∧Below w.heap.size w wr∧w.heap.size+4≤wr.heap.size) (fun x11 _=>(intOf x11+1).toNat)
 case atStart=>exact ⟨0,by omega,by omega,rfl,cF,cG,cH,cI,cJ,cK,cL,aS,gV,gW⟩
 case round=>
  clear gV gW cF cG cH cI cJ cK cL aS;obtain⟨m,kH,hm,rfl,aB,aO,aC,aD,aE,aG,aH,aA,dL,cV⟩:=hrel;by_cases hltm:m<64
  ·
   obtain⟨s,hs⟩:=F9 (63-m);have es:63-(m:Int)=(s:Int):=by omega
   have jO:s<64:=by omega
   have hd:decide (0≤(s:Int))=true:=decide_eq_true (by omega);rw[es];have HM:Hid (Ci n p mm (m+1)=X8 (X8 (Cy 4 (Ci n p mm m)) (Q8 (O9 E8 J7) (dg n s)) J7) (Q8 (O9 p J7) (dg mm s)) J7):=Lib.hid (by rw[hs];rfl);have ES:=Lib.hid es;clear hs es;have jP:=A8z n s;have jQ:=A8z mm s;go_wp2_with fail;go_loopw [25] (fun x25 wr=>∃q:Nat,0≤q∧q≤4∧x25=.int .i64 (q:Int)∧Bk wr (w.heap.size) 23 (c8 n)∧Bk wr (w.heap.size+1) 140 (C9 p.row)∧Bk wr (w.heap.size+2) 23 (c8 mm)∧Bk wr (w.heap.size+3) 140 (C9 (J2 20))∧Bk wr (p5) 138 (C9 J7)∧Bk wr (p9) 177 (C9 (Pl (O9 E8 J7)))∧Bk wr (eL) 177 (C9 (Pl (O9 p J7)))∧Bk wr (fT) 140 (C9 (Cy q (Ci n p mm m)).row)∧Below w.heap.size w wr∧w.heap.size+4≤wr.heap.size) (fun x25 _=>4-(intOf x25).toNat)
   case atStart=>exact ⟨0,by omega,by omega,rfl,aB,aO,aC,aD,aE,aG,aH,aA,dL,cV⟩
   case round=>
    clear dL cV aB aO aC aD aE aG aH aA;obtain⟨q,kI,hq,rfl,aB,aO,aC,aD,aE,aG,aH,aA,dL,cV⟩:=hrel;by_cases hltq:q<4
    ·
     have kJ:decide ((q:Int)<4)=true:=decide_eq_true (by omega);have jR:=Bk.row64 (n:=20) (aA) ((Ey (Ff n p mm m) q).row);go_wp2_with fail;clear jR;refine (Qk (Cy q (Ci n p mm m)) (Ey (Ff n p mm m) q) wr).mono ?_;rintro e jS ⟨rfl,cN⟩;have jD:=K9 dL cN;have jE:=Nat.le_trans cV cN.size;have dM:=aB.bl cN;have dN:=aO.bl cN;have dO:=aC.bl cN;have dP:=aD.bl cN;have dQ:=aE.bl cN;have dR:=aG.bl cN;have dS:=aH.bl cN;have aW:=aA.bl cN;clear cN dL cV aB aO aC aD aE aG aH aA;obtain⟨jT,aJ⟩:=F9 (D8 jS ⟨fT,0,none⟩ (C9 (Kj (Cy q (Ci n p mm m))).row));have cW:Bk jT (fT) 140 (C9 (Kj (Cy q (Ci n p mm m))).row):=by rw[aJ];exact Bk.put64 (aW) ((Ey (Ff n p mm m) q).row) ((Ho (Cy q (Ci n p mm m))).row)
     have eU:=J3 aJ dM (by omega);have eV:=J3 aJ dN (by omega);have eX:=J3 aJ dO (by omega);have eY:=J3 aJ dP (by omega);have eZ:=J3 aJ dQ (by omega);have fC:=J3 aJ dR (by omega);have fD:=J3 aJ dS (by omega);have iP:=Bi aJ jD (by omega);have fE:=Ee 20 aW ((Ey (Ff n p mm m) q).row);have aU:(Kj (Cy q (Ci n p mm m))).row.length=20:=(Ho (Cy q (Ci n p mm m))).row;go_wp2_with fail;rw[←aJ];clear fE aU;have iQ:=Il aJ jE;clear aJ dM dN dO dP dQ dR dS aW jD jE;go_roundw;case rel=>exact ⟨q+1,by omega,by omega,by go_num,eU,eV,eX,eY,eZ,fC,fD,cW,iP,iQ⟩
     case measure=>simp[intOf];omega
    ·
     obtain rfl:q=4:=by omega
     have e4:((4:Nat):Int)=4:=rfl;rw[e4];clear e4;go_wp2_with fail;have jF:=Fx wr;refine Fa (fun W=>Bk W (w.heap.size) 23 (c8 n)∧Bk W (w.heap.size+2) 23 (c8 mm)∧Bk W (p5) 138 (C9 J7)) ?_;refine Df (A:=?jU) [1,2,6,8,9,13] ⟨(aB.drew),(aC.drew),(aE.drew)⟩ (fun W hW=>?iR) ?jV;case iR=>have f1:=Bk.row8 (n:=32) (hW.1) (hn);have f6:=Bk.row64 (n:=5) (hW.2.2) (U4);have f8:=Bk.row8 (n:=32) (hW.2.1) (hmm);exact Ei
     refine J8 [zv 0 30 (H9 (Cy 4 (Ci n p mm m)).row),zv 3 33 (.int .u8 ((dg n s:Nat):Int)),zv 4 34 (.pointer (some ⟨p9,(dg n s)*20,none⟩)),zv 5 35 (H9 (Q8 (O9 E8 J7) (dg n s)).row),zv 7 37 (H9 (X8 (Cy 4 (Ci n p mm m)) (Q8 (O9 E8 J7) (dg n s)) J7).row),zv 10 40 (.int .u8 ((dg mm s:Nat):Int)),zv 11 41 (.pointer (some ⟨eL,(dg mm s)*20,none⟩)),zv 12 42 (H9 (Q8 (O9 p J7) (dg mm s)).row),zv 14 44 (H9 (X8 (X8 (Cy 4 (Ci n p mm m)) (Q8 (O9 E8 J7) (dg n s)) J7) (Q8 (O9 p J7) (dg mm s)) J7).row)] (by kernel_rfl) (fun W hW=>⟨(aB.drew.bl hW),(aC.drew.bl hW),(aE.drew.bl hW)⟩) ?fF ?fG ?fH;case fF=>exact Ln
     case fG=>
      refine (P5 ⟨?gY,(P5 ⟨?gZ,(P5 ⟨?hF,(P5 ⟨?hJ,(P5 ⟨?hY,(P5 ⟨?fI,(P5 ⟨?fJ,(P5 ⟨?fK,(P5 ⟨?fL,Kh⟩)⟩)⟩)⟩)⟩)⟩)⟩)⟩)⟩);case gY=>
       intro o ho us W hW hp Q' hQ';obtain rfl:=Option.some.inj ho;clear hp ho;rw[C7]at hQ' ⊢;dsimp only[F0,H8,List.foldl,zv,za]at hQ' ⊢;simp only[Ch];have f0:=Bk.row64 (n:=20) (aA.drew.bl hW) ((Ey (Ff n p mm m) 4).row);go_wp2_with fail;exact Cz (hQ' _ _ (Below.refl _ _) rfl nofun)
      case gZ=>exact Tq fun W=>Ts n hn s (by omega) W
      case hF=>intro o ho us W hW hp Q' hQ';obtain rfl:=Option.some.inj ho;have dT:us 3=(.int .u8 ((dg n s:Nat):Int)):=hp 1 _ rfl (by kernel_rfl);clear hp ho;rw[C7]at hQ' ⊢;dsimp only[F0,H8,List.foldl,zv,za]at hQ' ⊢;simp only[Ch];rw[dT]at hQ' ⊢;clear dT;go_wp2_with fail;exact Cz (hQ' _ _ (Below.refl _ _) rfl nofun)
      case hJ=>intro o ho us W hW hp Q' hQ';obtain rfl:=Option.some.inj ho;have iA:us 4=(.pointer (some ⟨p9,(dg n s)*20,none⟩)):=hp 2 _ rfl (by kernel_rfl);clear hp ho;rw[C7]at hQ' ⊢;dsimp only[F0,H8,List.foldl,zv,za]at hQ' ⊢;simp only[Ch];rw[iA]at hQ' ⊢;clear iA;have f5:=show J1 _ ⟨_,(dg n s)*20,none⟩ 20=some (C9 (Q8 (O9 E8 J7) (dg n s)).row) from Bk.plAt (i:=(dg n s)) (aG.drew.bl hW) (Av Cq J7) (by simp;try omega);go_wp2_with fail;exact Cz (hQ' _ _ (Below.refl _ _) rfl nofun)
      case hY=>intro o ho us W hW hp Q' hQ';obtain rfl:=Option.some.inj ho;have dD:us 0=(H9 (Cy 4 (Ci n p mm m)).row):=hp 0 _ rfl (by kernel_rfl);have dT:us 3=(.int .u8 ((dg n s:Nat):Int)):=hp 1 _ rfl (by kernel_rfl);have dE:us 5=(H9 (Q8 (O9 E8 J7) (dg n s)).row):=hp 3 _ rfl (by kernel_rfl);clear hp ho;rw[C7]at hQ' ⊢;dsimp only[F0,H8,List.foldl,zv,za]at hQ' ⊢;simp only[Ch];rw[dD,dT,dE]at hQ' ⊢;clear dD dT dE;go_wp2_with fail;refine (Ll (Cy 4 (Ci n p mm m)) (Q8 (O9 E8 J7) (dg n s)) J7 (Ey (Ff n p mm m) 4) ((Av Cq J7).at (dg n s)) U4 W).mono ?_;rintro e W2 ⟨rfl,b2⟩;go_wp2_with fail;exact Cz (hQ' _ _ b2 rfl nofun)
      case fI=>intro o ho us W hW hp Q' hQ';obtain rfl:=Option.some.inj ho;have aV:us 7=(H9 (X8 (Cy 4 (Ci n p mm m)) (Q8 (O9 E8 J7) (dg n s)) J7).row):=hp 4 _ rfl (by kernel_rfl);clear hp ho;rw[C7]at hQ' ⊢;dsimp only[F0,H8,List.foldl,zv,za]at hQ' ⊢;simp only[Ch];rw[aV]at hQ' ⊢;clear aV;go_wp2_with fail;refine (Ts mm hmm s (by omega) W).mono ?_;rintro e W2 ⟨rfl,b2⟩;go_wp2_with fail;exact Cz (hQ' _ _ b2 rfl nofun)
      case fJ=>intro o ho us W hW hp Q' hQ';obtain rfl:=Option.some.inj ho;have aT:us 10=(.int .u8 ((dg mm s:Nat):Int)):=hp 5 _ rfl (by kernel_rfl);clear hp ho;rw[C7]at hQ' ⊢;dsimp only[F0,H8,List.foldl,zv,za]at hQ' ⊢;simp only[Ch];rw[aT]at hQ' ⊢;clear aT;go_wp2_with fail;exact Cz (hQ' _ _ (Below.refl _ _) rfl nofun)
      case fK=>intro o ho us W hW hp Q' hQ';obtain rfl:=Option.some.inj ho;have cO:us 11=(.pointer (some ⟨eL,(dg mm s)*20,none⟩)):=hp 6 _ rfl (by kernel_rfl);clear hp ho;rw[C7]at hQ' ⊢;dsimp only[F0,H8,List.foldl,zv,za]at hQ' ⊢;simp only[Ch];rw[cO]at hQ' ⊢;clear cO;have kK:=show J1 _ ⟨_,(dg mm s)*20,none⟩ 20=some (C9 (Q8 (O9 p J7) (dg mm s)).row) from Bk.plAt (i:=(dg mm s)) (aH.drew.bl hW) (Av hp J7) (by simp;try omega);go_wp2_with fail;exact Cz (hQ' _ _ (Below.refl _ _) rfl nofun)
      case fL=>intro o ho us W hW hp Q' hQ';obtain rfl:=Option.some.inj ho;have aV:us 7=(H9 (X8 (Cy 4 (Ci n p mm m)) (Q8 (O9 E8 J7) (dg n s)) J7).row):=hp 4 _ rfl (by kernel_rfl);have aT:us 10=(.int .u8 ((dg mm s:Nat):Int)):=hp 5 _ rfl (by kernel_rfl);have cP:us 12=(H9 (Q8 (O9 p J7) (dg mm s)).row):=hp 7 _ rfl (by kernel_rfl);clear hp ho;rw[C7]at hQ' ⊢;dsimp only[F0,H8,List.foldl,zv,za]at hQ' ⊢;simp only[Ch];rw[aV,aT,cP]at hQ' ⊢;clear aV aT cP;go_wp2_with fail;refine (Ll (X8 (Cy 4 (Ci n p mm m)) (Q8 (O9 E8 J7) (dg n s)) J7) (Q8 (O9 p J7) (dg mm s)) J7 (Cp (Cy 4 (Ci n p mm m)) (Q8 (O9 E8 J7) (dg n s)) J7) ((Av hp J7).at (dg mm s)) U4 W).mono ?_;rintro e W2 ⟨rfl,b2⟩;go_wp2_with fail;exact Cz (hQ' _ _ b2 rfl nofun)
     case fH=>
     intro us jW jG hg cU gC;have dD:us 0=(H9 (Cy 4 (Ci n p mm m)).row):=hg _ (O8 0 rfl);have dT:us 3=(.int .u8 ((dg n s:Nat):Int)):=hg _ (O8 1 rfl);have iA:us 4=(.pointer (some ⟨p9,(dg n s)*20,none⟩)):=hg _ (O8 2 rfl);have dE:us 5=(H9 (Q8 (O9 E8 J7) (dg n s)).row):=hg _ (O8 3 rfl);have aV:us 7=(H9 (X8 (Cy 4 (Ci n p mm m)) (Q8 (O9 E8 J7) (dg n s)) J7).row):=hg _ (O8 4 rfl);have aT:us 10=(.int .u8 ((dg mm s:Nat):Int)):=hg _ (O8 5 rfl);have cO:us 11=(.pointer (some ⟨eL,(dg mm s)*20,none⟩)):=hg _ (O8 6 rfl);have cP:us 12=(H9 (Q8 (O9 p J7) (dg mm s)).row):=hg _ (O8 7 rfl);have iB:us 14=(H9 (X8 (X8 (Cy 4 (Ci n p mm m)) (Q8 (O9 E8 J7) (dg n s)) J7) (Q8 (O9 p J7) (dg mm s)) J7).row):=hg _ (O8 8 rfl);have cQ:=K9 jF jG;refine Pv ?_;rw[dD,dT,iA,dE,aV,aT,cO,cP,iB];clear hg cU gC dD dT iA dE aV aT cO cP iB jG jF;have jH:=K9 dL cQ;have jI:=Nat.le_trans cV cQ.size;have dU:=aB.bl cQ;have dV:=aO.bl cQ;have dW:=aC.bl cQ;have dX:=aD.bl cQ;have dY:=aE.bl cQ;have dZ:=aG.bl cQ;have eA:=aH.bl cQ;have aX:=aA.bl cQ;clear cQ dL cV aB aO aC aD aE aG aH aA;obtain⟨jX,aK⟩:=F9 (D8 jW ⟨fT,0,none⟩ (C9 (X8 (X8 (Cy 4 (Ci n p mm m)) (Q8 (O9 E8 J7) (dg n s)) J7) (Q8 (O9 p J7) (dg mm s)) J7).row))
     have fM:Bk jX (fT) 140 (C9 (X8 (X8 (Cy 4 (Ci n p mm m)) (Q8 (O9 E8 J7) (dg n s)) J7) (Q8 (O9 p J7) (dg mm s)) J7).row):=by rw[aK];exact Bk.put64 (aX) ((Ey (Ff n p mm m) 4).row) ((Cp (X8 (Cy 4 (Ci n p mm m)) (Q8 (O9 E8 J7) (dg n s)) J7) (Q8 (O9 p J7) (dg mm s)) J7).row)
     have eB:=J3 aK dU (by omega);have iC:=J3 aK dV (by omega);have eC:=J3 aK dW (by omega);have iD:=J3 aK dX (by omega);have eD:=J3 aK dY (by omega);have iE:=J3 aK dZ (by omega);have iF:=J3 aK eA (by omega);have jY:=Bi aK jH (by omega);have fN:=Ee 20 aX ((Ey (Ff n p mm m) 4).row);have fO:(X8 (X8 (Cy 4 (Ci n p mm m)) (Q8 (O9 E8 J7) (dg n s)) J7) (Q8 (O9 p J7) (dg mm s)) J7).row.length=20:=(Cp (X8 (Cy 4 (Ci n p mm m)) (Q8 (O9 E8 J7) (dg n s)) J7) (Q8 (O9 p J7) (dg mm s)) J7).row;refine U7 15 fun Q' hQ'=>?_;dsimp only[F0];go_wp2_with fail;rw[←aK];refine hQ' _ _ ⟨eB,eC,eD⟩ ?_;clear hQ' fN fO;have jZ:=Il aK jI;clear aK jH jI dU dV dW dX dY dZ eA aX;refine Ef ?_;go_wp2_with fail;go_roundw;case rel=>exact ⟨m+1,by omega,by omega,by rw[←ES.out];all_goals (simp<;>omega),eB,iC,eC,iD,eD,iE,iF,(by rw[HM.out];exact fM),jY,jZ⟩
     case measure=>have:=ES.out;simp[intOf]<;>omega
  ·
   obtain rfl:m=64:=by omega
   obtain⟨kL,cR⟩:=F9 (D8 wr ⟨w.heap.size+3,0,none⟩ (C9 (Ci n p mm 64).row));have fP:=Fi 20 cR aD (by simp) ((Ff n p mm 64).row);have iS:=Bi cR dL (by omega);have kB:=Bk.row64 (n:=20) (aA) ((Ff n p mm 64).row);have fQ:=Ee 20 aD (by simp);have aU:(Ci n p mm 64).row.length=20:=(Ff n p mm 64).row;go_wp2_with fail;rw[←cR];clear kB fQ aU;have kC:=Il cR cV;clear cR cV;have iT:(Ci n p mm 64).row.length=20:=(Ff n p mm 64).row;refine bodyPost_ret (E5 rfl _ _ _ _ _ _ rfl fP Z0 rfl (by simp[Dg,iT])) rfl ⟨rfl,iS⟩
theorem E4f (x y:UInt8):Op.intArith .sub .u8 (n8 x) (n8 y)=pure (.int .u8 (n8 (x-y))):=by
 unfold Op.intArith n8;have hx:=lt8 x;have hy:=lt8 y;have e:IntKind.u8.wrap ((x.toNat:Int)-(y.toNat:Int))=(((256-y.toNat+x.toNat) % 256:Nat):Int):=by
  simp only[IntKind.wrap,IntKind.bits,IntKind.signed,Bool.false_and,Bool.false_eq_true,if_false];omega
 rw[e,UInt8.toNat_sub]
@[go_sem ↓ high] theorem E5f (x : UInt8) : Op.intArith .sub .u8 (n8 x) 97 = pure (.int .u8 (n8 (x - 97))) := E4f x 97
@[go_sem ↓ high] theorem E5b (x : UInt8) : Op.intArith .sub .u8 (n8 x) 48 = pure (.int .u8 (n8 (x - 48))) := E4f x 48
@[go_sem ↓ high] theorem E7a (x : UInt8) : Op.intArith .add .u8 (n8 x) 10 = pure (.int .u8 (n8 (x + 10))) := E8r x 10
def St (c:UInt8):UInt8:=if 97≤c.toNat then c-97+10 else c-48
theorem A0u (c:UInt8) (w:World):Calls Tryz.prog 147 #[.int .u8 (n8 c)] w fun e w'=>e=.returned (.int .u8 (n8 (St c)))∧Below w.heap.size w w':=by
 by_cases h:97≤c.toNat
 ·have h1:97≤n8 c:=by unfold n8;omega
  have HN:Hid (St c=c-97+10):=Lib.hid (if_pos h);clear h;go_enter Tryz.func147,Tryz.ntmps147;go_wp2_with fail;go_ret;exact ⟨by rw[HN.out];rfl,Below.refl _ _⟩
 ·have h1:n8 c<97:=by unfold n8;omega
  have HN:Hid (St c=c-48):=Lib.hid (if_neg h);clear h;go_enter Tryz.func147,Tryz.ntmps147;go_wp2_with fail;go_ret;exact ⟨by rw[HN.out];rfl,Below.refl _ _⟩
noncomputable def Zo:ByteArray:=match Tryz.f146.body with
 | some (.seq _ (.seq (.region _ ops _) _))=>(match ops[0]? with
  | some o=>(match o.op with | .assign (.const (.string b))=>b | _=>⟨#[]⟩)
  | none=>⟨#[]⟩)
 | _=>⟨#[]⟩
noncomputable def X5:List UInt8:=Zo.data.toList
theorem A3n:X5.length=4096:=by kernel_rfl
theorem B2y : Tryz.f146.body = some (Code.seq (Code.region 0 #[{ dst := some 0, op := .assign (.const (.string ⟨#[]⟩)), type := 9, pos := "curve.go:119", after := #[], guard := none }] false)
 (Code.seq (Code.region 1 #[{ dst := some 0, op := .assign (.const (.string Zo)), type := 9, pos := "curve.go:120", after := #[], guard := none }] false) Code.ret)) := by kernel_rfl
theorem C3q:Value.string Zo=S8 X5:=rfl
attribute [irreducible] Zo X5
theorem B6z (w:World):Calls Tryz.prog 146 #[] w fun e w'=>e=.returned (S8 X5)∧Below w.heap.size w w':=by
 refine calls_of_wp Tryz.func146 B2y ?_;simp only[Tryz.ntmps146,List.size_toArray,List.length_cons,List.length_nil,Nat.reduceAdd,Nat.reduceSub,Array.replicate_succ,
  Array.replicate_zero,List.push_toArray,List.append_toArray,List.nil_append,List.cons_append]
 have HS:=Lib.hid C3q;go_wp2_with fail;go_ret;exact ⟨by rw[←HS.out];rfl,Below.refl _ _⟩
def D4x (w:World) (raw:Result Next):Value→Value→Result Next
 | .string s,.int _ i=>if 0≤i∧i<s.data.toList.length then .ok (.value (.int .u8 (n8 (g8 s.data.toList i.toNat)))) w else raw
 | _,_=>raw
@[go_sem] theorem E6z (w : World) (raw : Result Next) (l : List UInt8) (k : IntKind) (i : Int) : D4x w raw (S8 l) (.int k i) = if 0 ≤ i ∧ i < l.length then .ok (.value (.int .u8 (n8 (g8 l i.toNat)))) w else raw := rfl
@[go_sem ↓ high] theorem D7v (w : World) (ρ : Operand → Value) (dst : Option Tmp) (ty : TypeId) (pos : String) (after : Array Edge) (guard : Option (Nat × Bool)) (x ix : Operand) :
 (execOp ρ { dst,op:=.index 9 x ix,type:=ty,pos,after,guard }).run Tryz.prog w=D4x w (Q0 Tryz.prog ρ { dst,op:=.index 9 x ix,type:=ty,pos,after,guard } w) (ρ x) (ρ ix):=by
 generalize hv:ρ x=v;generalize hz:ρ ix=z;unfold D4x;split
 ·rename_i s kk i
  split
  ·rename_i hc
   have hs:s.size=s.data.toList.length:=rfl;have hi:0≤i∧i<s.size:=by omega
   have e1:=run_index_string (P:=Tryz.prog) w 9 s kk i Tryz.underlying9;rw[dif_pos hi]at e1;simp only[execOp,hv,hz,Sem.run_bind,e1,Result.andThen_ok,Sem.run_pure];have e2:((s[i.toNat]'(by omega)).toNat:Int)=n8 (g8 s.data.toList i.toNat):=by
    have hl:i.toNat<s.data.toList.length:=by omega
    unfold g8 n8;rw[List.getD_eq_getElem?_getD,List.getElem?_eq_getElem hl];show ((s.data[i.toNat]'(by omega)).toNat:Int)=_;simp
   rw[e2]
  ·rfl
 ·rfl
theorem C9h:((Tryz.prog.info? 226).bind (·.zero))=some (A8 (z8 64)):=by kernel_rfl
@[go_sem ↓ high] theorem E4k:RA' 226 (c8 (z8 64)).toArray:=fun w ρ dst ty pos after guard=>U6 w ρ dst ty pos after guard 226 (A8 (z8 64)) C9h
def H7 (l:List UInt8) (o:Nat):List UInt8:=(l.drop o).take 32
theorem Km {l:List UInt8} (hl:l.length=64) (o:Nat) (ho:o≤32):(H7 l o).length=32:=by unfold H7;simp;omega
theorem Bk.xyAt {w:World} {g:Nat} {t:TypeId} {l:List UInt8} (K:Bk w g t (c8 l)) (hl:l.length=64) (o:Nat) (ho:o≤32):J1 w ⟨g,o,none⟩ 32=some (c8 (H7 l o)):=by
 unfold H7;rw[K.rowMid o 32 (by simp;omega)];simp[c8]
noncomputable def Eh (i k:Nat):UInt8:=St (g8 X5 (128*i+2*k)) <<< 4 ||| St (g8 X5 (128*i+2*k+1))
noncomputable def B6m (i:Nat):List UInt8:=Kn (Eh i) 64 64
noncomputable def Nl (i:Nat):Pn:=Y0 (C6 (H7 (B6m i) 0)) (C6 (H7 (B6m i) 32))
theorem Og (i:Nat):(Nl i).Ok:=Y8 (H6 _) (H6 _)
theorem C6b {i:Nat} (h:i<32):(Ai Nl 32 i).set i (Y0 (C6 (H7 (Kn (Eh i) 64 64) 0)) (C6 (H7 (Kn (Eh i) 64 64) 32)))=Ai Nl 32 (i+1):=Uo h rfl
noncomputable def Np:List Pn:=Ai Nl 32 32
theorem Ku:Jy Np:=Cd Og 32 32
@[simp, go_sem] theorem B0i : Np.length = 32 := Xq _ _ _
theorem C7p {i:Nat} (hi:i<32):Q8 Np i=Nl i:=by unfold Np;rw[Zi hi,if_pos hi]
theorem B2s (w:World):Calls Tryz.prog 126 #[] w fun e w'=>e=.returned (H9 (Pl Np))∧Below w.heap.size w w':=by
 obtain⟨W0,cN⟩:=F9 ((w.alloc (Obj.cells (C9 (J2 640)).toArray 205)));have hL:W0=M9 w [(205,(C9 (J2 640)))]:=cN;have B0:=Ki hL;have bJ:=Ko hL rfl;have z0:=Za 1 hL rfl;have cW:=SL' 1 hL rfl;clear hL;obtain⟨V1,bH⟩:=F9 (W0.alloc (Obj.cells (C9 (J2 640)).toArray 205));have cX:W0.heap.size=w.heap.size+1:=cW;have aJ:Bk V1 (w.heap.size+1) 205 (C9 (J2 640)):=by rw[bH,←cX];exact Bk.new W0 _ _
 have aS:=Ac bH bJ;have cY:=Lk bH B0;clear cX;go_enter Tryz.func126,Tryz.ntmps126;go_wp2_with fail;rw[←cN,←bH];have cZ:=ZA' bH z0;clear cN bH cW bJ B0 z0;rw[←D5q Nl]at aJ;go_wp2_with fail;refine (B6z V1).mono ?_;rintro e W2 ⟨rfl,b3⟩;have B2:=K9 cY b3;have z2:=Nat.le_trans cZ b3.size;have bK:=aS.bl b3;have bL:=aJ.bl b3;clear b3 cY cZ aS aJ;go_wp2_with fail;go_loopw [8] (fun x8 wr=>∃i:Nat,0≤i∧i≤32∧x8=.int .i64 (i:Int)∧Bk wr (w.heap.size) 205 (C9 (J2 640))∧Bk wr (w.heap.size+1) 205 (C9 (Pl (Ai Nl 32 i)))∧Below w.heap.size w wr∧w.heap.size+1≤wr.heap.size) (fun x8 _=>32-(intOf x8).toNat)
 case atStart=>exact ⟨0,by omega,by omega,rfl,bK,bL,B2,z2⟩
 case round=>
  clear B2 z2 bK bL;obtain⟨i,eF,hi,rfl,aB,aC,aX,aP⟩:=hrel;by_cases hlti:i<32
  ·
   have eG:decide ((i:Int)<32)=true:=decide_eq_true (by omega);obtain⟨V4,aY⟩:=F9 (wr.alloc (Obj.cells (c8 (z8 64)).toArray 226));have bM:wr.heap.size=wr.heap.size:=rfl;have aH:Bk V4 (wr.heap.size) 226 (c8 (z8 64)):=by rw[aY,←bM];exact Bk.new wr _ _
   have aT:=Ac aY aB;have aU:=Ac aY aC;have dB:=Lk aY aX;have aK:=Aj bM aB;have aL:=Aj bM aC;have bN:w.heap.size+1≤wr.heap.size:=by rw[←bM];exact Nat.le_trans aP (Nat.le_refl _)
   clear bM;go_wp2_with fail;rw[←aY];obtain⟨p5,cO⟩:=F9 (wr.heap.size);rw[←cO]at aH aK aL bN;try rw[←cO]
   have dC:=ZA' aY aP;clear aY cO aP;rw[←Xh (f:=Eh i)]at aH;go_wp2_with fail;go_loopw [11] (fun x11 wr=>∃k:Nat,0≤k∧k≤64∧x11=.int .i64 (k:Int)∧Bk wr (w.heap.size) 205 (C9 (J2 640))∧Bk wr (w.heap.size+1) 205 (C9 (Pl (Ai Nl 32 i)))∧Bk wr (p5) 226 (c8 (Kn (Eh i) 64 k))∧Below w.heap.size w wr∧w.heap.size+1≤wr.heap.size) (fun x11 _=>64-(intOf x11).toNat)
   case atStart=>exact ⟨0,by omega,by omega,rfl,aT,aU,aH,dB,dC⟩
   case round=>
    clear dB dC aT aU aH;obtain⟨k,eH,hk,rfl,aB,aC,aD,aX,aP⟩:=hrel;by_cases hltk:k<64
    ·
     have eI:decide ((k:Int)<64)=true:=decide_eq_true (by omega);obtain⟨aA,bO⟩:=F9 (128*i+2*k);have eJ:128*(i:Int)+2*(k:Int)=(aA:Int):=by omega
     have dN:((aA:Int)+1).toNat=aA+1:=by omega
     have dO:=A3n;have eK:aA+1<X5.length:=by omega
     have dP:(aA:Int)+1<(X5.length:Int):=by omega
     have dD:(aA:Int)<(X5.length:Int):=by omega
     obtain⟨qq,dQ⟩:=F9 (k / 32);obtain⟨rr,dR⟩:=F9 (k % 32);have eL:(k:Int) / 32=(qq:Int):=by omega
     have eM:(k:Int) % 32=(rr:Int):=by omega
     have dS:Int.tmod (k:Int) 32=(rr:Int):=by rw[Int.tmod_eq_emod_of_nonneg (by omega)];omega
     have dT:qq<2:=by omega
     have dU:rr<32:=by omega
     have dE:qq*32+rr=k:=by omega
     have dV:=Lib.hid dE;have HA:Hid (Eh i k=St (g8 X5 aA) <<< 4 ||| St (g8 X5 (aA+1))):=Lib.hid (by rw[bO];rfl);clear bO dQ dR dO dE;go_wp2_with fail;have S6:=Fx wr;refine Fa (fun W=>True) ?_;refine Df (A:=?eN) [0,1,2,3,4,5,6,9,10,11,12,15] trivial (fun W hW=>?dW) ?eO;case dW=>exact Ei
     refine J8 [zv 7 26 (.int .u8 (n8 (St (g8 X5 aA)))),zv 8 27 (.int .u8 (n8 (St (g8 X5 aA) <<< 4))),zv 13 32 (.int .u8 (n8 (St (g8 X5 (aA+1))))),zv 14 33 (.int .u8 (n8 (St (g8 X5 aA) <<< 4 ||| St (g8 X5 (aA+1))))),zv 16 35 (.pointer (some ⟨p5,qq*32+rr,none⟩))] (by kernel_rfl) (fun W hW=>trivial) ?bP ?bQ ?bR;case bP=>exact Ln
     case bQ=>
      refine (P5 ⟨?cP,(P5 ⟨?cQ,(P5 ⟨?bS,(P5 ⟨?bT,(P5 ⟨?bU,Kh⟩)⟩)⟩)⟩)⟩);case cP=>
       exact Tq fun W=>A0u (g8 X5 aA) W
      case cQ=>intro o ho us W hW hp Q' hQ';obtain rfl:=Option.some.inj ho;have aI:us 7=(.int .u8 (n8 (St (g8 X5 aA)))):=hp 0 _ rfl (by kernel_rfl);clear hp ho;rw[C7]at hQ' ⊢;dsimp only[F0,H8,List.foldl,zv,za]at hQ' ⊢;simp only[Ch];rw[aI]at hQ' ⊢;clear aI;go_wp2_with fail;exact Cz (hQ' _ _ (Below.refl _ _) rfl nofun)
      case bS=>exact Jt fun W=>A0u (g8 X5 (aA+1)) W
      case bT=>intro o ho us W hW hp Q' hQ';obtain rfl:=Option.some.inj ho;have aM:us 8=(.int .u8 (n8 (St (g8 X5 aA) <<< 4))):=hp 1 _ rfl (by kernel_rfl);have aE:us 13=(.int .u8 (n8 (St (g8 X5 (aA+1))))):=hp 2 _ rfl (by kernel_rfl);clear hp ho;rw[C7]at hQ' ⊢;dsimp only[F0,H8,List.foldl,zv,za]at hQ' ⊢;simp only[Ch];rw[aM,aE]at hQ' ⊢;clear aM aE;go_wp2_with fail;exact Cz (hQ' _ _ (Below.refl _ _) rfl nofun)
      case bU=>intro o ho us W hW hp Q' hQ';obtain rfl:=Option.some.inj ho;have aI:us 7=(.int .u8 (n8 (St (g8 X5 aA)))):=hp 0 _ rfl (by kernel_rfl);have aM:us 8=(.int .u8 (n8 (St (g8 X5 aA) <<< 4))):=hp 1 _ rfl (by kernel_rfl);have aE:us 13=(.int .u8 (n8 (St (g8 X5 (aA+1))))):=hp 2 _ rfl (by kernel_rfl);have aN:us 14=(.int .u8 (n8 (St (g8 X5 aA) <<< 4 ||| St (g8 X5 (aA+1))))):=hp 3 _ rfl (by kernel_rfl);clear hp ho;rw[C7]at hQ' ⊢;dsimp only[F0,H8,List.foldl,zv,za]at hQ' ⊢;simp only[Ch];rw[aI,aM,aE,aN]at hQ' ⊢;clear aI aM aE aN;go_wp2_with fail;exact Cz (hQ' _ _ (Below.refl _ _) rfl nofun)
     case bR=>
     intro us W7 b8 hg aZ cR;have aI:us 7=(.int .u8 (n8 (St (g8 X5 aA)))):=hg _ (O8 0 rfl);have aM:us 8=(.int .u8 (n8 (St (g8 X5 aA) <<< 4))):=hg _ (O8 1 rfl);have aE:us 13=(.int .u8 (n8 (St (g8 X5 (aA+1))))):=hg _ (O8 2 rfl);have aN:us 14=(.int .u8 (n8 (St (g8 X5 aA) <<< 4 ||| St (g8 X5 (aA+1))))):=hg _ (O8 3 rfl);have bV:us 16=(.pointer (some ⟨p5,qq*32+rr,none⟩)):=hg _ (O8 4 rfl);have b9:=K9 S6 b8;refine Pv ?_;rw[aI,aM,aE,aN,bV];clear hg aZ cR aI aM aE aN bV b8 S6;have B7:=K9 aX b9;have z7:=Nat.le_trans aP b9.size;have bX:=aB.bl b9;have bY:=aC.bl b9;have aQ:=aD.bl b9;clear b9 aX aP aB aC aD;obtain⟨dF,aF⟩:=F9 (W7.setCell ⟨p5,qq*32+rr,none⟩ (.int .u8 (n8 (St (g8 X5 aA) <<< 4 ||| St (g8 X5 (aA+1))))));have bZ:Bk dF (p5) 226 (c8 ((Kn (Eh i) 64 k).set (qq*32+rr) (St (g8 X5 aA) <<< 4 ||| St (g8 X5 (aA+1))))):=by have:=aQ.set_ (qq*32+rr) (.int .u8 (n8 (St (g8 X5 aA) <<< 4 ||| St (g8 X5 (aA+1)))));rw[Fp]at this;rw[aF];exact this
     have cA:=KS' aF bX (by omega);have cB:=KS' aF bY (by omega);have dX:=BS' aF B7 (by omega);have cC:=(aQ).at_ (Eb (l:=(Kn (Eh i) 64 k)) (i:=qq*32+rr) (by have hh:(Kn (Eh i) 64 k).length=64:=(Jn (Eh i) 64 k);omega));have cD:=(aQ).frozen (qq*32+rr);refine U7 17 fun Q' hQ'=>?_;dsimp only[F0];go_wp2_with fail;rw[←aF];refine hQ' _ _ trivial ?_;clear hQ' cC cD;have dY:w.heap.size+1≤dF.heap.size:=by have hz:=z7;rw[aF];simp[World.setCell];omega
     clear aF B7 z7 bX bY aQ;refine Ef ?_;go_wp2_with fail;go_roundw;case rel=>exact ⟨k+1,by omega,by omega,by go_num,cA,cB,(by have h4:=bZ;rw[dV.out,A5g hltk HA.out.symm]at h4;exact h4),dX,dY⟩
     case measure=>simp[intOf];omega
    ·
     obtain rfl:k=64:=by omega
     have dG:((64:Nat):Int)=64:=rfl;rw[dG];clear dG;go_wp2_with fail;have dH:=Fx wr;refine Fa (fun W=>Bk W (p5) 226 (c8 (Kn (Eh i) 64 64))) ?_;refine Df (A:=?dZ) [0,1,2,4,5] (aD.drew) (fun W hW=>?cS) ?eA;case cS=>have f2:=Bk.xyAt (hW) (Jn (Eh i) 64 64) 0 (by decide);have f5:=Bk.xyAt (hW) (Jn (Eh i) 64 64) 32 (by decide);exact Ei
     refine J8 [zv 3 40 (H9 (C6 (H7 (Kn (Eh i) 64 64) 0))),zv 6 43 (H9 (C6 (H7 (Kn (Eh i) 64 64) 32))),zv 7 44 (H9 (Y0 (C6 (H7 (Kn (Eh i) 64 64) 0)) (C6 (H7 (Kn (Eh i) 64 64) 32))).row),zv 8 45 (.pointer (some ⟨w.heap.size+1,i*20,none⟩))] (by kernel_rfl) (fun W hW=>(aD.drew.bl hW)) ?bA ?bB ?bC;case bA=>exact Ln
     case bB=>
      refine (P5 ⟨?cE,(P5 ⟨?cF,(P5 ⟨?cG,(P5 ⟨?cH,Kh⟩)⟩)⟩)⟩);case cE=>
       exact Tq fun W=>Ij (H7 (Kn (Eh i) 64 64) 0) (Km (Jn (Eh i) 64 64) 0 (by decide)) W
      case cF=>exact Jt fun W=>Ij (H7 (Kn (Eh i) 64 64) 32) (Km (Jn (Eh i) 64 64) 32 (by decide)) W
      case cG=>exact A7s fun W=>Mh (C6 (H7 (Kn (Eh i) 64 64) 0)) (C6 (H7 (Kn (Eh i) 64 64) 32)) (H6 (H7 (Kn (Eh i) 64 64) 0)) (H6 (H7 (Kn (Eh i) 64 64) 32)) W
      case cH=>intro o ho us W hW hp Q' hQ';obtain rfl:=Option.some.inj ho;have cI:us 3=(H9 (C6 (H7 (Kn (Eh i) 64 64) 0))):=hp 0 _ rfl (by kernel_rfl);have cJ:us 6=(H9 (C6 (H7 (Kn (Eh i) 64 64) 32))):=hp 1 _ rfl (by kernel_rfl);have aI:us 7=(H9 (Y0 (C6 (H7 (Kn (Eh i) 64 64) 0)) (C6 (H7 (Kn (Eh i) 64 64) 32))).row):=hp 2 _ rfl (by kernel_rfl);clear hp ho;rw[C7]at hQ' ⊢;dsimp only[F0,H8,List.foldl,zv,za]at hQ' ⊢;simp only[Ch];rw[cI,cJ,aI]at hQ' ⊢;clear cI cJ aI;go_wp2_with fail;exact Cz (hQ' _ _ (Below.refl _ _) rfl nofun)
     case bC=>
     intro us dI dJ hg aZ cR;have cI:us 3=(H9 (C6 (H7 (Kn (Eh i) 64 64) 0))):=hg _ (O8 0 rfl);have cJ:us 6=(H9 (C6 (H7 (Kn (Eh i) 64 64) 32))):=hg _ (O8 1 rfl);have aI:us 7=(H9 (Y0 (C6 (H7 (Kn (Eh i) 64 64) 0)) (C6 (H7 (Kn (Eh i) 64 64) 32))).row):=hg _ (O8 2 rfl);have aM:us 8=(.pointer (some ⟨w.heap.size+1,i*20,none⟩)):=hg _ (O8 3 rfl);have bI:=K9 dH dJ;refine Pv ?_;rw[cI,cJ,aI,aM];clear hg aZ cR cI cJ aI aM dJ dH;have dK:=K9 aX bI;have dL:=Nat.le_trans aP bI.size;have aV:=aB.bl bI;have aO:=aC.bl bI;have aW:=aD.bl bI;clear bI aX aP aB aC aD;obtain⟨eB,aG⟩:=F9 (D8 dI ⟨w.heap.size+1,i*20,none⟩ (C9 (Y0 (C6 (H7 (Kn (Eh i) 64 64) 0)) (C6 (H7 (Kn (Eh i) 64 64) 32))).row));have cK:Bk eB (w.heap.size+1) 205 (C9 (Pl ((Ai Nl 32 i).set i (Y0 (C6 (H7 (Kn (Eh i) 64 64) 0)) (C6 (H7 (Kn (Eh i) 64 64) 32)))))):=by rw[aG];exact Bk.plPut (i:=i) (aO) (Cd Og 32 i) (by simp;try omega) (Y8 (H6 (H7 (Kn (Eh i) 64 64) 0)) (H6 (H7 (Kn (Eh i) 64 64) 32)))
     have cL:=J3 aG aV (by omega);have cM:=J3 aG aW (by omega);have eC:=Bi aG dK (by omega);have bD:T5 dI ⟨w.heap.size+1,i*20,none⟩ 20=true:=Bk.plCan (i:=i) (aO) (Cd Og 32 i) (by simp;try omega);have bE:(Y0 (C6 (H7 (Kn (Eh i) 64 64) 0)) (C6 (H7 (Kn (Eh i) 64 64) 32))).row.length=20:=(Y8 (H6 (H7 (Kn (Eh i) 64 64) 0)) (H6 (H7 (Kn (Eh i) 64 64) 32))).row;refine U7 9 fun Q' hQ'=>?_;dsimp only[F0];go_wp2_with fail;rw[←aG];refine hQ' _ _ cM ?_;clear hQ' bD bE;have eD:=Il aG dL;clear aG dK dL aV aO aW;refine Ef ?_;go_wp2_with fail;go_roundw;case rel=>exact ⟨i+1,by omega,by omega,by go_num,cL,(by have h1:=cK;rw[C6b hlti]at h1;exact h1),eC,eD⟩
     case measure=>simp[intOf];omega
  ·
   obtain rfl:i=32:=by omega
   have dM:((32:Nat):Int)=32:=rfl;rw[dM];clear dM;obtain⟨eP,aR⟩:=F9 (D8 wr ⟨w.heap.size,0,none⟩ (C9 (Pl (Ai Nl 32 32))));have bF:=Fi 640 aR aB (by simp) (by rw[X4 (Cd Og 32 32)];simp);have cT:=Bi aR aX (by omega);have eE:=Bk.row64 (n:=640) (aC) ((show (Pl (Ai Nl 32 32)).length=640 from by rw[X4 (Cd Og 32 32)];simp));have bG:=Ee 640 aB (by simp);have cU:(Pl (Ai Nl 32 32)).length=640:=(show (Pl (Ai Nl 32 32)).length=640 from by rw[X4 (Cd Og 32 32)];simp);go_wp2_with fail;rw[←aR];clear eE bG cU;clear aR aP;have cV:(Pl (Ai Nl 32 32)).length=640:=(show (Pl (Ai Nl 32 32)).length=640 from by rw[X4 (Cd Og 32 32)];simp);refine bodyPost_ret (E5 rfl _ _ _ _ _ _ rfl bF Tryz.underlying205 rfl (by simp[A1s,cV])) rfl ⟨rfl,cT⟩
noncomputable def D0f (n:Nat) (w:World) (raw:Result Next) (v z:Value):Result Next:=match Yy v,z with
 | some l,.int _ i=>if l.length=n*20∧0≤i∧i<n then .ok (.value (H9 ((l.drop (i.toNat*20)).take 20))) w else raw
 | _,_=>raw
@[go_sem] theorem E5v (n : Nat) (w : World) (raw : Result Next) (ps : List Pn) (h : Jy ps) (hl : ps.length = n) (k : IntKind) (i : Nat) (hi : i < n) : D0f n w raw (H9 (Pl ps)) (.int k (i : Int)) = .ok (.value (H9 (Q8 ps i).row)) w := by
 have h1:=X4 h;have h2:=C5s i h (by omega);unfold D0f;rw[Rn];show (if (Pl ps).length=n*20∧0≤(i:Int)∧(i:Int)<n then Result.ok (.value (H9 (((Pl ps).drop ((i:Int).toNat*20)).take 20))) w else raw)=_;rw[if_pos ⟨by omega,by omega,by omega⟩,Int.toNat_natCast,h2];rfl
theorem B5n (w:World):(sizeOf 140).run Tryz.prog w=.ok 20 w:=by kernel_rfl
theorem C7q (xs:List UInt64) (o:Nat) (w:World):(part 140 (C9 xs).toArray o).run Tryz.prog w=.ok (H9 ((xs.drop o).take 20)) w:=by
 simp[part,isAgg,run_underlying Z0,B5n,H9,C9,List.extract_eq_take_drop]
@[go_sem ↓ high] theorem D7g (w : World) (ρ : Operand → Value) (dst : Option Tmp) (ty : TypeId) (pos : String) (after : Array Edge) (guard : Option (Nat × Bool)) (x ix : Operand) :
 (execOp ρ { dst,op:=.index 205 x ix,type:=ty,pos,after,guard }).run Tryz.prog w=D0f 32 w (Q0 Tryz.prog ρ { dst,op:=.index 205 x ix,type:=ty,pos,after,guard } w) (ρ x) (ρ ix):=by
 generalize hv:ρ x=v;generalize hz:ρ ix=z;unfold D0f;split
 ·rename_i l k i h1
  replace h1:=Jc h1;split
  ·rename_i hc
   obtain⟨h2,h3,h4⟩:=hc;subst h1;have h5:i<32:=by omega
   have h6:¬ 32≤i:=by omega
   have e1:(part 140 (C9 l).toArray (i.toNat*20)).run Tryz.prog w=.ok (H9 ((l.drop (i.toNat*20)).take 20)) w:=C7q l _ w;simp[execOp,hv,hz,H9,Instr.index,run_underlying Tryz.underlying205,asIntOf,h3,h4,h5,h6,B5n,e1]
  ·rfl
 ·rfl
def B9y (n:List UInt8) (i s:Nat):Bool:=g8 n i >>> UInt8.ofNat s &&& 1==1
noncomputable def Ct (n:List UInt8) (s:Nat) (r:Pn):Nat→Pn
 | 0=>r
 | i+1=>if B9y n i s then X8 (Ct n s r i) (Nl i) J7 else Ct n s r i
theorem Jh (n:List UInt8) (s:Nat) {r:Pn} (hr:r.Ok):∀i,(Ct n s r i).Ok
 | 0=>hr
 | i+1=>by
  unfold Ct;split
  ·exact Cp _ _ _
  ·exact Jh n s hr i
theorem A9j {n:List UInt8} {s:Nat} {r:Pn} {i:Nat} (hb:B9y n i s=true) (hi:i<32):Ct n s r (i+1)=X8 (Ct n s r i) (Q8 Np i) J7:=by
 rw[C7p hi];exact if_pos hb
theorem B2m {n:List UInt8} {s:Nat} {r:Pn} {i:Nat} (hb:B9y n i s=false):Ct n s r (i+1)=Ct n s r i:=if_neg (by rw[hb];decide)
noncomputable def Bq (n:List UInt8):Nat→Pn
 | 0=>D9 Co
 | m+1=>Ct n (7-m) (Kj (Bq n m)) 32
theorem Gx (n:List UInt8):∀m,(Bq n m).Ok
 | 0=>M1 Fg
 | m+1=>Jh n _ (Ho _) 32
noncomputable def Qn (n:List UInt8):Pn:=Bq n 8
theorem Sb (n:List UInt8):(Qn n).Ok:=Gx n 8
theorem B6s (n:List UInt8) (hn:n.length=32) (w:World):Calls Tryz.prog 94 #[A8 n] w fun e w'=>e=.returned (H9 (Qn n).row)∧Below w.heap.size w w':=by
 have gT:=Ku;have gU:=B0i;obtain⟨W0,fJ⟩:=F9 (((w.alloc (Obj.cells (c8 n).toArray 23)).alloc (Obj.cells (C9 (J2 20)).toArray 140)));have hL:W0=M9 w [(23,(c8 n)),(140,(C9 (J2 20)))]:=fJ;have B0:=Ki hL;have eU:=Ko hL rfl;have eV:=Ig 1 hL rfl;have z0:=Za 2 hL rfl;clear hL;go_enter Tryz.func94,Tryz.ntmps94;go_wp2_with fail;rw[←fJ];clear fJ;refine (Vs W0).mono ?_;rintro e W1 ⟨rfl,b2⟩;have B1:=K9 B0 b2;have z1:=Nat.le_trans z0 b2.size;have dQ:=eU.bl b2;have dR:=eV.bl b2;clear b2 B0 z0 eU eV;obtain⟨V3,cP⟩:=F9 (W1.alloc (Obj.cells (C9 (J2 5)).toArray 138));have eX:W1.heap.size=W1.heap.size:=rfl;have bE:Bk V3 (W1.heap.size) 138 (C9 (J2 5)):=by rw[cP,←eX];exact Bk.new W1 _ _
 have cQ:=Ac cP dQ;have cR:=Ac cP dR;have fS:=Lk cP B1;have bF:=Aj eX dQ;have bG:=Aj eX dR;have eY:w.heap.size+2≤W1.heap.size:=by rw[←eX];exact Nat.le_trans z1 (Nat.le_refl _)
 clear eX;obtain⟨V4,dS⟩:=F9 (D8 V3 ⟨W1.heap.size,0,none⟩ (C9 J7));have bH:=Fi 5 dS bE (by simp) U4;have cS:=J3 dS cQ (by omega);have cT:=J3 dS cR (by omega);have fT:=Bi dS fS (by omega);have cU:=Ee 5 bE (by simp);rw[cP]at cU;have aC:J7.length=5:=U4;go_wp2_with fail;rw[←cP,←dS];clear cU aC;obtain⟨p5,fK⟩:=F9 (W1.heap.size);rw[←fK]at bH bF bG eY;try rw[←fK]
 have fU:w.heap.size+2≤V4.heap.size:=by have hz:=z1;rw[dS,cP];first | (simp;omega) | (simp[World.setCell];omega)
 clear cP dS fK dQ dR B1 z1 cQ cR bE fS;refine (B2s V4).mono ?_;rintro e W6 ⟨rfl,b7⟩;have B6:=K9 fT b7;have z6:=Nat.le_trans fU b7.size;have dT:=cS.bl b7;have dU:=cT.bl b7;have dV:=bH.bl b7;clear b7 fT fU cS cT bH;obtain⟨V8,cM⟩:=F9 (W6.alloc (Obj.cells (C9 (J2 640)).toArray 205));have eQ:W6.heap.size=W6.heap.size:=rfl;have bI:Bk V8 (W6.heap.size) 205 (C9 (J2 640)):=by rw[cM,←eQ];exact Bk.new W6 _ _
 have cV:=Ac cM dT;have cW:=Ac cM dU;have cX:=Ac cM dV;have fV:=Lk cM B6;have bJ:=Aj eQ dT;have bK:=Aj eQ dU;have bL:=Aj eQ dV;have eZ:w.heap.size+2≤W6.heap.size:=by rw[←eQ];exact Nat.le_trans z6 (Nat.le_refl _)
 clear eQ;obtain⟨V9,cY⟩:=F9 (D8 V8 ⟨W6.heap.size,0,none⟩ (C9 (Pl Np)));have bM:=Fi 640 cY bI (by simp) (by rw[X4 Ku];simp);have cZ:=J3 cY cV (by omega);have dB:=J3 cY cW (by omega);have dC:=J3 cY cX (by omega);have fW:=Bi cY fV (by omega);have dD:=Ee 640 bI (by simp);rw[cM]at dD;have aC:(Pl Np).length=640:=(show (Pl Np).length=640 from by rw[X4 Ku];simp);go_wp2_with fail;rw[←cM,←cY];clear dD aC;obtain⟨fX,dW⟩:=F9 (W6.heap.size);rw[←dW]at bM bJ bK bL eZ;try rw[←dW]
 have fY:w.heap.size+2≤V9.heap.size:=by have hz:=z6;rw[cY,cM];first | (simp;omega) | (simp[World.setCell];omega)
 clear cM cY dW dT dU dV B6 z6 cV cW cX bI fV;refine (Jk Co Fg V9).mono ?_;rintro e dE ⟨rfl,dX⟩;have fZ:=K9 fW dX;have fL:=Nat.le_trans fY dX.size;have bN:=cZ.bl dX;have bO:=dB.bl dX;have bP:=dC.bl dX;have bQ:=bM.bl dX;clear dX fW fY cZ dB dC bM;obtain⟨gA,aH⟩:=F9 (dE.alloc (Obj.cells (C9 (J2 20)).toArray 140));have aX:dE.heap.size=dE.heap.size:=rfl;have aY:Bk gA (dE.heap.size) 140 (C9 (J2 20)):=by rw[aH,←aX];exact Bk.new dE _ _
 have bR:=Ac aH bN;have bS:=Ac aH bO;have bT:=Ac aH bP;have bU:=Ac aH bQ;have fC:=Lk aH fZ;have bV:=Aj aX bN;have bX:=Aj aX bO;have bY:=Aj aX bP;have bZ:=Aj aX bQ;have fD:w.heap.size+2≤dE.heap.size:=by rw[←aX];exact Nat.le_trans fL (Nat.le_refl _)
 clear aX;obtain⟨gL,aM⟩:=F9 (D8 gA ⟨dE.heap.size,0,none⟩ (C9 (D9 Co).row));have aZ:=Fi 20 aM aY (by simp) ((M1 Fg).row);have cA:=J3 aM bR (by omega);have cB:=J3 aM bS (by omega);have cC:=J3 aM bT (by omega);have cD:=J3 aM bU (by omega);have fE:=Bi aM fC (by omega);have cE:=Ee 20 aY (by simp);rw[aH]at cE;have aC:(D9 Co).row.length=20:=(M1 Fg).row;go_wp2_with fail;rw[←aH,←aM];clear cE aC;obtain⟨eS,dY⟩:=F9 (dE.heap.size);rw[←dY]at aZ bV bX bY bZ fD;try rw[←dY]
 have fF:w.heap.size+2≤gL.heap.size:=by have hz:=fL;rw[aM,aH];first | (simp;omega) | (simp[World.setCell];omega)
 clear aH aM dY bN bO bP bQ fZ fL bR bS bT bU aY fC;go_loopw [6] (fun x6 wr=>∃m:Nat,0≤m∧m≤8∧x6=.int .i64 (7-(m:Int))∧Bk wr (w.heap.size) 23 (c8 n)∧Bk wr (w.heap.size+1) 140 (C9 (J2 20))∧Bk wr (p5) 138 (C9 J7)∧Bk wr (fX) 205 (C9 (Pl Np))∧Bk wr (eS) 140 (C9 (Bq n m).row)∧Below w.heap.size w wr∧w.heap.size+2≤wr.heap.size) (fun x6 _=>(intOf x6+1).toNat)
 case atStart=>exact ⟨0,by omega,by omega,rfl,cA,cB,cC,cD,aZ,fE,fF⟩
 case round=>
  clear fE fF cA cB cC cD aZ;obtain⟨m,gV,hm,rfl,aJ,aD,aK,aL,aE,eT,cL⟩:=hrel;by_cases hltm:m<8
  ·
   obtain⟨s,hs⟩:=F9 (7-m);have es:7-(m:Int)=(s:Int):=by omega
   have gM:s<8:=by omega
   have hd:decide (0≤(s:Int))=true:=decide_eq_true (by omega);rw[es];have HM:Hid (Bq n (m+1)=Ct n s (Kj (Bq n m)) 32):=Lib.hid (by rw[hs];rfl);have ES:=Lib.hid es;clear hs es;have gN:=Bk.row64 (n:=20) (aE) ((Gx n m).row);go_wp2_with fail;clear gN;refine (Qk (Bq n m) (Gx n m) wr).mono ?_;rintro e gO ⟨rfl,dF⟩;have gB:=K9 eT dF;have gC:=Nat.le_trans cL dF.size;have dG:=aJ.bl dF;have dH:=aD.bl dF;have dI:=aK.bl dF;have dJ:=aL.bl dF;have cF:=aE.bl dF;clear dF eT cL aJ aD aK aL aE;obtain⟨gP,aI⟩:=F9 (D8 gO ⟨eS,0,none⟩ (C9 (Kj (Bq n m)).row));have cG:Bk gP (eS) 140 (C9 (Kj (Bq n m)).row):=by rw[aI];exact Bk.put64 (cF) ((Gx n m).row) ((Ho (Bq n m)).row)
   have cH:=J3 aI dG (by omega);have cI:=J3 aI dH (by omega);have cJ:=J3 aI dI (by omega);have bA:=J3 aI dJ (by omega);have fG:=Bi aI gB (by omega);have dZ:=Ee 20 cF ((Gx n m).row);have Pq:=Bk.row64 (n:=640) (bA) ((show (Pl Np).length=640 from by rw[X4 Ku];simp));rw[aI]at Pq;have aC:(Kj (Bq n m)).row.length=20:=(Ho (Bq n m)).row;go_wp2_with fail;rw[←aI];clear dZ Pq aC;have fH:=Il aI gC;clear aI dG dH dI dJ cF gB gC;go_loopw [20] (fun x20 wr=>∃i:Nat,0≤i∧i≤32∧x20=.int .i64 (i:Int)∧Bk wr (w.heap.size) 23 (c8 n)∧Bk wr (w.heap.size+1) 140 (C9 (J2 20))∧Bk wr (p5) 138 (C9 J7)∧Bk wr (fX) 205 (C9 (Pl Np))∧Bk wr (eS) 140 (C9 (Ct n s (Kj (Bq n m)) i).row)∧Below w.heap.size w wr∧w.heap.size+2≤wr.heap.size) (fun x20 _=>32-(intOf x20).toNat)
   case atStart=>exact ⟨0,by omega,by omega,rfl,cH,cI,cJ,bA,cG,fG,fH⟩
   case round=>
    clear fG fH cH cI cJ bA cG;obtain⟨i,gW,hi,rfl,aJ,aD,aK,aL,aE,eT,cL⟩:=hrel;by_cases hlti:i<32
    ·
     have gY:decide ((i:Int)<32)=true:=decide_eq_true (by omega);have gZ:(n8 (g8 n i >>> UInt8.ofNat s &&& 1)==1)=B9y n i s:=Ox (x:=g8 n i >>> UInt8.ofNat s &&& 1) (y:=1);obtain⟨gE,aA⟩:=F9 (wr.alloc (Obj.cells (C9 (J2 20)).toArray 140));have aR:wr.heap.size=wr.heap.size:=rfl;have bB:Bk gE (wr.heap.size) 140 (C9 (J2 20)):=by rw[aA,←aR];exact Bk.new wr _ _
     have eA:=Ac aA aJ;have eB:=Ac aA aD;have eC:=Ac aA aK;have eD:=Ac aA aL;have eE:=Ac aA aE;have fM:=Lk aA eT;have aS:=Aj aR aJ;have aT:=Aj aR aD;have aU:=Aj aR aK;have aV:=Aj aR aL;have aW:=Aj aR aE;have dK:w.heap.size+2≤wr.heap.size:=by rw[←aR];exact Nat.le_trans cL (Nat.le_refl _)
     clear aR;obtain⟨fN,aB⟩:=F9 (D8 gE ⟨wr.heap.size,0,none⟩ (C9 (Q8 Np i).row));have aN:=Fi 20 aB bB (by simp) ((Ku.at i).row);have aF:=J3 aB eA (by omega);have bC:=J3 aB eB (by omega);have aO:=J3 aB eC (by omega);have bD:=J3 aB eD (by omega);have aP:=J3 aB eE (by omega);have eF:=Bi aB fM (by omega);cases hb2:B9y n i s;case false=>
      have aG:=Ee 20 bB (by simp);rw[aA]at aG;have fI:=(aF).at_ (Eb (l:=n) (i:=i) (by have hh:n.length=32:=hn;omega));rw[aB,aA]at fI;have aC:(Q8 Np i).row.length=20:=(Ku.at i).row;go_wp2_with fail;rw[←aA,←aB];clear aG fI aC;obtain⟨hF,eG⟩:=F9 (wr.heap.size);rw[←eG]at aN aS aT aU aV aW dK;try rw[←eG]
      have cN:w.heap.size+2≤fN.heap.size:=by have hz:=cL;rw[aB,aA];first | (simp;omega) | (simp[World.setCell];omega)
      clear aA aB eG cL;go_roundw;case rel=>exact ⟨i+1,by omega,by omega,by go_num,aF,bC,aO,bD,(by rw[B2m hb2];exact aP),eF,cN⟩
      case measure=>simp[intOf];omega
     case true=>
      have aG:=Ee 20 bB (by simp);rw[aA]at aG;have fI:=(aF).at_ (Eb (l:=n) (i:=i) (by have hh:n.length=32:=hn;omega));rw[aB,aA]at fI;have gF:=Bk.row64 (n:=20) (aP) ((Jh n s (Ho (Bq n m)) i).row);rw[aB,aA]at gF;have gG:=Bk.row64 (n:=20) (aN) ((Ku.at i).row);rw[aB,aA]at gG;have gH:=Bk.row64 (n:=5) (aO) (U4);rw[aB,aA]at gH;have aC:(Q8 Np i).row.length=20:=(Ku.at i).row;go_wp2_with fail;rw[←aA,←aB];clear aG fI gF gG gH aC;obtain⟨hJ,eH⟩:=F9 (wr.heap.size);rw[←eH]at aN aS aT aU aV aW dK;try rw[←eH]
      have cN:w.heap.size+2≤fN.heap.size:=by have hz:=cL;rw[aB,aA];first | (simp;omega) | (simp[World.setCell];omega)
      clear aA aB eH cL;refine (Ll (Ct n s (Kj (Bq n m)) i) (Q8 Np i) J7 (Jh n s (Ho (Bq n m)) i) (Ku.at i) U4 fN).mono ?_;rintro e gQ ⟨rfl,dL⟩;have gI:=K9 eF dL;have gJ:=Nat.le_trans cN dL.size;have dM:=aF.bl dL;have dN:=bC.bl dL;have dO:=aO.bl dL;have dP:=bD.bl dL;have cK:=aP.bl dL;clear dL eF cN aF bC aO bD aP aN;obtain⟨gR,aQ⟩:=F9 (D8 gQ ⟨eS,0,none⟩ (C9 (X8 (Ct n s (Kj (Bq n m)) i) (Q8 Np i) J7).row));have eI:Bk gR (eS) 140 (C9 (X8 (Ct n s (Kj (Bq n m)) i) (Q8 Np i) J7).row):=by rw[aQ];exact Bk.put64 (cK) ((Jh n s (Ho (Bq n m)) i).row) ((Cp (Ct n s (Kj (Bq n m)) i) (Q8 Np i) J7).row)
      have eJ:=J3 aQ dM (by omega);have eK:=J3 aQ dN (by omega);have eL:=J3 aQ dO (by omega);have eM:=J3 aQ dP (by omega);have fO:=Bi aQ gI (by omega);have eN:=Ee 20 cK ((Jh n s (Ho (Bq n m)) i).row);have aC:(X8 (Ct n s (Kj (Bq n m)) i) (Q8 Np i) J7).row.length=20:=(Cp (Ct n s (Kj (Bq n m)) i) (Q8 Np i) J7).row;go_wp2_with fail;rw[←aQ];clear eN aC;have fP:=Il aQ gJ;clear aQ dM dN dO dP cK gI gJ;go_roundw;case rel=>exact ⟨i+1,by omega,by omega,by go_num,eJ,eK,eL,eM,(by rw[A9j hb2 hlti];exact eI),fO,fP⟩
      case measure=>simp[intOf];omega
    ·
     obtain rfl:i=32:=by omega
     have gK:((32:Nat):Int)=32:=rfl;rw[gK];clear gK;go_wp2_with fail;go_roundw;case rel=>exact ⟨m+1,by omega,by omega,by rw[←ES.out];all_goals (simp<;>omega),aJ,aD,aK,aL,(by rw[HM.out];exact aE),eT,cL⟩
     case measure=>have:=ES.out;simp[intOf]<;>omega
  ·
   obtain rfl:m=8:=by omega
   obtain⟨hY,cO⟩:=F9 (D8 wr ⟨w.heap.size+1,0,none⟩ (C9 (Bq n 8).row));have eO:=Fi 20 cO aD (by simp) ((Gx n 8).row);have fQ:=Bi cO eT (by omega);have gS:=Bk.row64 (n:=20) (aE) ((Gx n 8).row);have eP:=Ee 20 aD (by simp);have aC:(Bq n 8).row.length=20:=(Gx n 8).row;go_wp2_with fail;rw[←cO];clear gS eP aC;clear cO cL;have fR:(Bq n 8).row.length=20:=(Gx n 8).row;refine bodyPost_ret (E5 rfl _ _ _ _ _ _ rfl eO Z0 rfl (by simp[Dg,fR])) rfl ⟨rfl,fQ⟩
end Go.Proofs.YtlegpkdighoflaaGreat
