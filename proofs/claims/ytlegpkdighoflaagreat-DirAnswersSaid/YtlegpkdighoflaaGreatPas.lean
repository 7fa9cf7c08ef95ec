/- A part of the proof of DirAnswers. -/
import Derived.ArgAppend
import Derived.Test.YtlegpkdighoflaaGreatPar
set_option linter.unusedVariables false
set_option linter.unusedSimpArgs false
set_option maxRecDepth 100000
set_option maxHeartbeats 40000000
namespace Go.Proofs.YtlegpkdighoflaaGreat
open Go Go.RowKit Sh
noncomputable def Jd (p:Pn) (n:List UInt8):Nat→Pn
 | 0=>Q8 (O9 p J7) 0
 | m+1=>X8 (Cy 4 (Jd p n m)) (Q8 (O9 p J7) (dg n (63-m))) J7
theorem Gs {p:Pn} (hp:p.Ok) (n:List UInt8):∀m,(Jd p n m).Ok
 | 0=>(Av hp J7).at 0
 | m+1=>Cp _ _ _
noncomputable def J9 (p:Pn) (n:List UInt8):Pn:=if p.row==E8.row then Qn n else Jd p n 64
theorem A5p {p:Pn} (hp:p.Ok) (n:List UInt8):(J9 p n).Ok:=by
 unfold J9;split
 ·exact Sb n
 ·exact Gs hp n 64
theorem A7p {p:Pn} (n:List UInt8) (h:(p.row==E8.row)=true):J9 p n=Qn n:=if_pos h
theorem C8e {p:Pn} (n:List UInt8) (h:(p.row==E8.row)=false):J9 p n=Jd p n 64:=if_neg (by rw[h];decide)
theorem A2t (p:Pn) (n:List UInt8) (hp:p.Ok) (hn:n.length=32) (w:World):Calls Tryz.prog 66 #[H9 p.row,A8 n] w fun e w'=>e=.returned (H9 (J9 p n).row)∧Below w.heap.size w w':=by
 have iY:=hp.row;have iZ:=Cq.row;obtain⟨W0,fZ⟩:=F9 ((((w.alloc (Obj.cells (C9 p.row).toArray 140)).alloc (Obj.cells (c8 n).toArray 23)).alloc (Obj.cells (C9 (J2 20)).toArray 140)));have hL:W0=M9 w [(140,(C9 p.row)),(23,(c8 n)),(140,(C9 (J2 20)))]:=fZ;have B0:=Ki hL;have cR:=Ko hL rfl;have eV:=Ig 1 hL rfl;have eX:=Ig 2 hL rfl;have z0:=Za 3 hL rfl;have iH:=SL' 3 hL rfl;clear hL;go_enter Tryz.func66,Tryz.ntmps66;go_wp2_with fail;rw[←fZ];clear fZ iH;have S1:=Fx W0;refine Fa (fun W=>Bk W (w.heap.size) 140 (C9 p.row)) ?_;refine Df (A:=?jA) [0] (cR.drew) (fun W hW=>?iI) ?jB;case iI=>have f0:=Bk.row64 (n:=20) (hW) (hp.row);exact Ei
 refine J8 [zv 1 10 (H9 E8.row),zv 2 11 (.bool (p.row==E8.row))] (by kernel_rfl) (fun W hW=>(cR.drew.bl hW)) ?eY ?eZ ?fC;case eY=>exact Ln
 case eZ=>
  refine (P5 ⟨?gA,(P5 ⟨?gB,Kh⟩)⟩);case gA=>
   exact Tq fun W=>Qi W
  case gB=>intro o ho us W hW hp Q' hQ';obtain rfl:=Option.some.inj ho;have fD:us 1=(H9 E8.row):=hp 0 _ rfl (by kernel_rfl);clear hp ho;rw[C7]at hQ' ⊢;dsimp only[F0,H8,List.foldl,zv,za]at hQ' ⊢;simp only[Ch];rw[fD]at hQ' ⊢;clear fD;go_wp2_with fail;exact Jr (hQ' _ _ (Below.refl _ _) rfl (fun h=>by cases h)) (by kernel_rfl)
 case fC=>
 intro us W2 b3 hg dU gC;have fD:us 1=(H9 E8.row):=hg _ (O8 0 rfl);have gT:us 2=(.bool (p.row==E8.row)):=hg _ (O8 1 rfl);have b4:=K9 S1 b3;refine Pv ?_;rw[fD,gT];clear hg dU gC fD gT b3 S1;have B2:=K9 B0 b4;have z2:=Nat.le_trans z0 b4.size;have cS:=cR.bl b4;have bC:=eV.bl b4;have cT:=eX.bl b4;clear b4 B0 z0 cR eV eX;refine Ef ?_;cases hz:(p.row==E8.row);case false=>
  have HZ:=Lib.hid (C8e n hz);clear hz;go_wp2_with fail;refine (Vs W2).mono ?_;rintro e W5 ⟨rfl,b6⟩;have B5:=K9 B2 b6;have z5:=Nat.le_trans z2 b6.size;have dV:=cS.bl b6;have dW:=bC.bl b6;have dX:=cT.bl b6;clear b6 B2 z2 cS bC cT;obtain⟨V7,bD⟩:=F9 (W5.alloc (Obj.cells (C9 (J2 5)).toArray 138));have eT:W5.heap.size=W5.heap.size:=rfl;have bE:Bk V7 (W5.heap.size) 138 (C9 (J2 5)):=by rw[bD,←eT];exact Bk.new W5 _ _
  have cX:=Ac bD dV;have cY:=Ac bD dW;have cZ:=Ac bD dX;have gU:=Lk bD B5;have bF:=Aj eT dV;have bG:=Aj eT dW;have bH:=Aj eT dX;have fE:w.heap.size+3≤W5.heap.size:=by rw[←eT];exact Nat.le_trans z5 (Nat.le_refl _)
  clear eT;obtain⟨V8,cQ⟩:=F9 (D8 V7 ⟨W5.heap.size,0,none⟩ (C9 J7));have bA:=Fi 5 cQ bE (by simp) U4;have bI:=J3 cQ cX (by omega);have dB:=J3 cQ cY (by omega);have dC:=J3 cQ cZ (by omega);have gV:=Bi cQ gU (by omega);have dD:=Ee 5 bE (by simp);rw[bD]at dD;have f9:=Bk.row64 (n:=20) (bI) (hp.row);rw[cQ,bD]at f9;have Xp:=Bk.row64 (n:=5) (bA) (U4);rw[cQ,bD]at Xp;have aN:J7.length=5:=U4;go_wp2_with fail;rw[←bD,←cQ];clear dD f9 Xp aN;obtain⟨gE,dY⟩:=F9 (W5.heap.size);rw[←dY]at bA bF bG bH fE;try rw[←dY]
  have gW:w.heap.size+3≤V8.heap.size:=by have hz:=z5;rw[cQ,bD];first | (simp;omega) | (simp[World.setCell];omega)
  clear bD cQ dY dV dW dX B5 z5 cX cY cZ bE gU;refine (A0r p J7 hp U4 V8).mono ?_;rintro e bB ⟨rfl,dZ⟩;have gY:=K9 gV dZ;have fY:=Nat.le_trans gW dZ.size;have bJ:=bI.bl dZ;have bK:=dB.bl dZ;have bL:=dC.bl dZ;have bM:=bA.bl dZ;clear dZ gV gW bI dB dC bA;obtain⟨gZ,aF⟩:=F9 (bB.alloc (Obj.cells (C9 (J2 320)).toArray 177));have aQ:bB.heap.size=bB.heap.size:=rfl;have aR:Bk gZ (bB.heap.size) 177 (C9 (J2 320)):=by rw[aF,←aQ];exact Bk.new bB _ _
  have bN:=Ac aF bJ;have bO:=Ac aF bK;have bP:=Ac aF bL;have bQ:=Ac aF bM;have fF:=Lk aF gY;have bR:=Aj aQ bJ;have bS:=Aj aQ bK;have bT:=Aj aQ bL;have bU:=Aj aQ bM;have fG:w.heap.size+3≤bB.heap.size:=by rw[←aQ];exact Nat.le_trans fY (Nat.le_refl _)
  clear aQ;obtain⟨gF,aH⟩:=F9 (D8 gZ ⟨bB.heap.size,0,none⟩ (C9 (Pl (O9 p J7))));have aO:=Fi 320 aH aR (by simp) (by rw[X4 (Av hp J7)];simp);have aS:=J3 aH bN (by omega);have aT:=J3 aH bO (by omega);have aU:=J3 aH bP (by omega);have aV:=J3 aH bQ (by omega);have fH:=Bi aH fF (by omega);obtain⟨hF,aI⟩:=F9 (gF.alloc (Obj.cells (C9 (J2 20)).toArray 140));have aP:gF.heap.size=bB.heap.size+1:=by rw[aH,aF];simp
  have aW:Bk hF (bB.heap.size+1) 140 (C9 (J2 20)):=by rw[aI,←aP];exact Bk.new gF _ _
  have bV:=Ac aI aS;have bX:=Ac aI aT;have bY:=Ac aI aU;have bZ:=Ac aI aV;have cA:=Ac aI aO;have fI:=Lk aI fH;have cB:=Aj aP aS;have cC:=Aj aP aT;have cD:=Aj aP aU;have cE:=Aj aP aV;have cF:=Aj aP aO;have fJ:w.heap.size+3≤bB.heap.size+1:=by rw[←aP];exact Nat.le_trans fY (by rw[aP];omega)
  clear aP;obtain⟨iJ,aJ⟩:=F9 (D8 hF ⟨bB.heap.size+1,0,none⟩ (C9 (Q8 (O9 p J7) 0).row));have aX:=Fi 20 aJ aW (by simp) (((Av hp J7).at 0).row);have cG:=J3 aJ bV (by omega);have cH:=J3 aJ bX (by omega);have cI:=J3 aJ bY (by omega);have cJ:=J3 aJ bZ (by omega);have aY:=J3 aJ cA (by omega);have fK:=Bi aJ fI (by omega);have cK:=Ee 320 aR (by simp);rw[aF]at cK;have hJ:=show J1 _ ⟨_,0,none⟩ 20=some (C9 (Q8 (O9 p J7) 0).row) from Bk.plAt (i:=0) (aO) (Av hp J7) (by simp;try omega);rw[aH,aF]at hJ;have cL:=Ee 20 aW (by simp);rw[aI,aH,aF]at cL;have aN:(Pl (O9 p J7)).length=320:=(show (Pl (O9 p J7)).length=320 from by rw[X4 (Av hp J7)];simp);have gG:(Q8 (O9 p J7) 0).row.length=20:=((Av hp J7).at 0).row;go_wp2_with fail;rw[←aF,←aH,←aI,←aJ];clear cK hJ cL aN gG;obtain⟨cM,eA⟩:=F9 (bB.heap.size);rw[←eA]at aY aX bR bS bT bU fG cB cC cD cE cF fJ;try rw[←eA]
  have fL:w.heap.size+3≤iJ.heap.size:=by have hz:=fY;rw[aJ,aI,aH,aF];first | (simp;omega) | (simp[World.setCell];omega)
  clear aF aH aI aJ eA bJ bK bL bM gY fY bN bO bP bQ aR fF aS aT aU aV aO fH bV bX bY bZ cA aW fI;go_loopw [8] (fun x8 wr=>∃m:Nat,0≤m∧m≤64∧x8=.int .i64 (63-(m:Int))∧Bk wr (w.heap.size) 140 (C9 p.row)∧Bk wr (w.heap.size+1) 23 (c8 n)∧Bk wr (w.heap.size+2) 140 (C9 (J2 20))∧Bk wr (gE) 138 (C9 J7)∧Bk wr (cM) 177 (C9 (Pl (O9 p J7)))∧Bk wr (cM+1) 140 (C9 (Jd p n m).row)∧Below w.heap.size w wr∧w.heap.size+3≤wr.heap.size) (fun x8 _=>(intOf x8+1).toNat)
  case atStart=>exact ⟨0,by omega,by omega,rfl,cG,cH,cI,cJ,aY,aX,fK,fL⟩
  case round=>
   clear fK fL cG cH cI cJ aY aX;obtain⟨m,jC,hm,rfl,aG,aB,aD,aC,aE,aA,dE,cU⟩:=hrel;by_cases hltm:m<64
   ·
    obtain⟨s,hs⟩:=F9 (63-m);have es:63-(m:Int)=(s:Int):=by omega
    have iK:s<64:=by omega
    have hd:decide (0≤(s:Int))=true:=decide_eq_true (by omega);rw[es];have HM:Hid (Jd p n (m+1)=X8 (Cy 4 (Jd p n m)) (Q8 (O9 p J7) (dg n s)) J7):=Lib.hid (by rw[hs];rfl);have ES:=Lib.hid es;clear hs es;have iL:=A8z n s;go_wp2_with fail;go_loopw [24] (fun x24 wr=>∃q:Nat,0≤q∧q≤4∧x24=.int .i64 (q:Int)∧Bk wr (w.heap.size) 140 (C9 p.row)∧Bk wr (w.heap.size+1) 23 (c8 n)∧Bk wr (w.heap.size+2) 140 (C9 (J2 20))∧Bk wr (gE) 138 (C9 J7)∧Bk wr (cM) 177 (C9 (Pl (O9 p J7)))∧Bk wr (cM+1) 140 (C9 (Cy q (Jd p n m)).row)∧Below w.heap.size w wr∧w.heap.size+3≤wr.heap.size) (fun x24 _=>4-(intOf x24).toNat)
    case atStart=>exact ⟨0,by omega,by omega,rfl,aG,aB,aD,aC,aE,aA,dE,cU⟩
    case round=>
     clear dE cU aG aB aD aC aE aA;obtain⟨q,jD,hq,rfl,aG,aB,aD,aC,aE,aA,dE,cU⟩:=hrel;by_cases hltq:q<4
     ·
      have jE:decide ((q:Int)<4)=true:=decide_eq_true (by omega);have Pq:=Bk.row64 (n:=20) (aA) ((Ey (Gs hp n m) q).row);go_wp2_with fail;clear Pq;refine (Qk (Cy q (Jd p n m)) (Ey (Gs hp n m) q) wr).mono ?_;rintro e iM ⟨rfl,cV⟩;have hY:=K9 dE cV;have iA:=Nat.le_trans cU cV.size;have dF:=aG.bl cV;have dG:=aB.bl cV;have dH:=aD.bl cV;have dI:=aC.bl cV;have dJ:=aE.bl cV;have cN:=aA.bl cV;clear cV dE cU aG aB aD aC aE aA;obtain⟨iN,aK⟩:=F9 (D8 iM ⟨cM+1,0,none⟩ (C9 (Kj (Cy q (Jd p n m))).row));have eB:Bk iN (cM+1) 140 (C9 (Kj (Cy q (Jd p n m))).row):=by rw[aK];exact Bk.put64 (cN) ((Ey (Gs hp n m) q).row) ((Ho (Cy q (Jd p n m))).row)
      have eC:=J3 aK dF (by omega);have eD:=J3 aK dG (by omega);have eE:=J3 aK dH (by omega);have eF:=J3 aK dI (by omega);have eG:=J3 aK dJ (by omega);have gH:=Bi aK hY (by omega);have eH:=Ee 20 cN ((Ey (Gs hp n m) q).row);have aN:(Kj (Cy q (Jd p n m))).row.length=20:=(Ho (Cy q (Jd p n m))).row;go_wp2_with fail;rw[←aK];clear eH aN;have gI:=Il aK iA;clear aK dF dG dH dI dJ cN hY iA;go_roundw;case rel=>exact ⟨q+1,by omega,by omega,by go_num,eC,eD,eE,eF,eG,eB,gH,gI⟩
      case measure=>simp[intOf];omega
     ·
      obtain rfl:q=4:=by omega
      have e4:((4:Nat):Int)=4:=rfl;rw[e4];clear e4;go_wp2_with fail;have iB:=Fx wr;refine Fa (fun W=>Bk W (w.heap.size+1) 23 (c8 n)∧Bk W (gE) 138 (C9 J7)) ?_;refine Df (A:=?iO) [1,2,6] ⟨(aB.drew),(aC.drew)⟩ (fun W hW=>?gJ) ?iP;case gJ=>have f1:=Bk.row8 (n:=32) (hW.1) (hn);have f6:=Bk.row64 (n:=5) (hW.2) (U4);exact Ei
      refine J8 [zv 0 29 (H9 (Cy 4 (Jd p n m)).row),zv 3 32 (.int .u8 ((dg n s:Nat):Int)),zv 4 33 (.pointer (some ⟨cM,(dg n s)*20,none⟩)),zv 5 34 (H9 (Q8 (O9 p J7) (dg n s)).row),zv 7 36 (H9 (X8 (Cy 4 (Jd p n m)) (Q8 (O9 p J7) (dg n s)) J7).row)] (by kernel_rfl) (fun W hW=>⟨(aB.drew.bl hW),(aC.drew.bl hW)⟩) ?eI ?eJ ?eK;case eI=>exact Ln
      case eJ=>
       refine (P5 ⟨?fM,(P5 ⟨?fN,(P5 ⟨?fO,(P5 ⟨?fP,(P5 ⟨?fQ,Kh⟩)⟩)⟩)⟩)⟩);case fM=>
        intro o ho us W hW hp Q' hQ';obtain rfl:=Option.some.inj ho;clear hp ho;rw[C7]at hQ' ⊢;dsimp only[F0,H8,List.foldl,zv,za]at hQ' ⊢;simp only[Ch];have f0:=Bk.row64 (n:=20) (aA.drew.bl hW) ((Ey (Gs hp n m) 4).row);go_wp2_with fail;exact Cz (hQ' _ _ (Below.refl _ _) rfl nofun)
       case fN=>exact Tq fun W=>Ts n hn s (by omega) W
       case fO=>intro o ho us W hW hp Q' hQ';obtain rfl:=Option.some.inj ho;have dK:us 3=(.int .u8 ((dg n s:Nat):Int)):=hp 1 _ rfl (by kernel_rfl);clear hp ho;rw[C7]at hQ' ⊢;dsimp only[F0,H8,List.foldl,zv,za]at hQ' ⊢;simp only[Ch];rw[dK]at hQ' ⊢;clear dK;go_wp2_with fail;exact Cz (hQ' _ _ (Below.refl _ _) rfl nofun)
       case fP=>intro o ho us W hW hp Q' hQ';obtain rfl:=Option.some.inj ho;have fR:us 4=(.pointer (some ⟨cM,(dg n s)*20,none⟩)):=hp 2 _ rfl (by kernel_rfl);clear hp ho;rw[C7]at hQ' ⊢;dsimp only[F0,H8,List.foldl,zv,za]at hQ' ⊢;simp only[Ch];rw[fR]at hQ' ⊢;clear fR;have f5:=show J1 _ ⟨_,(dg n s)*20,none⟩ 20=some (C9 (Q8 (O9 p J7) (dg n s)).row) from Bk.plAt (i:=(dg n s)) (aE.drew.bl hW) (Av hp J7) (by simp;try omega);go_wp2_with fail;exact Cz (hQ' _ _ (Below.refl _ _) rfl nofun)
       case fQ=>intro o ho us W hW hp Q' hQ';obtain rfl:=Option.some.inj ho;have fS:us 0=(H9 (Cy 4 (Jd p n m)).row):=hp 0 _ rfl (by kernel_rfl);have dK:us 3=(.int .u8 ((dg n s:Nat):Int)):=hp 1 _ rfl (by kernel_rfl);have fT:us 5=(H9 (Q8 (O9 p J7) (dg n s)).row):=hp 3 _ rfl (by kernel_rfl);clear hp ho;rw[C7]at hQ' ⊢;dsimp only[F0,H8,List.foldl,zv,za]at hQ' ⊢;simp only[Ch];rw[fS,dK,fT]at hQ' ⊢;clear fS dK fT;go_wp2_with fail;refine (Ll (Cy 4 (Jd p n m)) (Q8 (O9 p J7) (dg n s)) J7 (Ey (Gs hp n m) 4) ((Av hp J7).at (dg n s)) U4 W).mono ?_;rintro e W2 ⟨rfl,b2⟩;go_wp2_with fail;exact Cz (hQ' _ _ b2 rfl nofun)
      case eK=>
      intro us iQ iC hg dU gC;have fS:us 0=(H9 (Cy 4 (Jd p n m)).row):=hg _ (O8 0 rfl);have dK:us 3=(.int .u8 ((dg n s:Nat):Int)):=hg _ (O8 1 rfl);have fR:us 4=(.pointer (some ⟨cM,(dg n s)*20,none⟩)):=hg _ (O8 2 rfl);have fT:us 5=(H9 (Q8 (O9 p J7) (dg n s)).row):=hg _ (O8 3 rfl);have iD:us 7=(H9 (X8 (Cy 4 (Jd p n m)) (Q8 (O9 p J7) (dg n s)) J7).row):=hg _ (O8 4 rfl);have cW:=K9 iB iC;refine Pv ?_;rw[fS,dK,fR,fT,iD];clear hg dU gC fS dK fR fT iD iC iB;have iE:=K9 dE cW;have iF:=Nat.le_trans cU cW.size;have dL:=aG.bl cW;have dM:=aB.bl cW;have dN:=aD.bl cW;have dO:=aC.bl cW;have dP:=aE.bl cW;have cO:=aA.bl cW;clear cW dE cU aG aB aD aC aE aA;obtain⟨iR,aL⟩:=F9 (D8 iQ ⟨cM+1,0,none⟩ (C9 (X8 (Cy 4 (Jd p n m)) (Q8 (O9 p J7) (dg n s)) J7).row));have fU:Bk iR (cM+1) 140 (C9 (X8 (Cy 4 (Jd p n m)) (Q8 (O9 p J7) (dg n s)) J7).row):=by rw[aL];exact Bk.put64 (cO) ((Ey (Gs hp n m) 4).row) ((Cp (Cy 4 (Jd p n m)) (Q8 (O9 p J7) (dg n s)) J7).row)
      have fV:=J3 aL dL (by omega);have dQ:=J3 aL dM (by omega);have fW:=J3 aL dN (by omega);have dR:=J3 aL dO (by omega);have fX:=J3 aL dP (by omega);have iS:=Bi aL iE (by omega);have eL:=Ee 20 cO ((Ey (Gs hp n m) 4).row);have eM:(X8 (Cy 4 (Jd p n m)) (Q8 (O9 p J7) (dg n s)) J7).row.length=20:=(Cp (Cy 4 (Jd p n m)) (Q8 (O9 p J7) (dg n s)) J7).row;refine U7 8 fun Q' hQ'=>?_;dsimp only[F0];go_wp2_with fail;rw[←aL];refine hQ' _ _ ⟨dQ,dR⟩ ?_;clear hQ' eL eM;have iT:=Il aL iF;clear aL iE iF dL dM dN dO dP cO;refine Ef ?_;go_wp2_with fail;go_roundw;case rel=>exact ⟨m+1,by omega,by omega,by rw[←ES.out];all_goals (simp<;>omega),fV,dQ,fW,dR,fX,(by rw[HM.out];exact fU),iS,iT⟩
      case measure=>have:=ES.out;simp[intOf]<;>omega
   ·
    obtain rfl:m=64:=by omega
    obtain⟨jF,aM⟩:=F9 (D8 wr ⟨w.heap.size+2,0,none⟩ (C9 (Jd p n 64).row));have eN:=Fi 20 aM aD (by simp) ((Gs hp n 64).row);have gK:=J3 aM aG (by omega);have gL:=J3 aM aB (by omega);have gM:=J3 aM aC (by omega);have gN:=J3 aM aE (by omega);have gO:=J3 aM aA (by omega);have gP:=Bi aM dE (by omega);have iU:=Bk.row64 (n:=20) (aA) ((Gs hp n 64).row);have eO:=Ee 20 aD (by simp);have aN:(Jd p n 64).row.length=20:=(Gs hp n 64).row;go_wp2_with fail;rw[←aM];clear iU eO aN;have iV:=Il aM cU;clear aM cU;have eP:(Jd p n 64).row.length=20:=(Gs hp n 64).row;refine bodyPost_ret (E5 rfl _ _ _ _ _ _ rfl eN Z0 rfl (by simp[Dg,eP])) rfl ⟨by rw[HZ.out];rfl,gP⟩
 case true=>have HZ:=Lib.hid (A7p n hz);clear hz;have iW:=Bk.row8 (n:=32) (bC) (hn);go_wp2_with fail;clear iW;refine (B6s n hn W2).mono ?_;rintro e Lh ⟨rfl,eU⟩;have iG:=K9 B2 eU;have Ss:=Nat.le_trans z2 eU.size;have dS:=cS.bl eU;have dT:=bC.bl eU;have cP:=cT.bl eU;clear eU B2 z2 cS bC cT;obtain⟨jG,aZ⟩:=F9 (D8 Lh ⟨w.heap.size+2,0,none⟩ (C9 (Qn n).row));have eQ:=Fi 20 aZ cP (by simp) ((Sb n).row);have gQ:=J3 aZ dS (by omega);have gR:=J3 aZ dT (by omega);have gS:=Bi aZ iG (by omega);have eS:=Ee 20 cP (by simp);have aN:(Qn n).row.length=20:=(Sb n).row;go_wp2_with fail;rw[←aZ];clear eS aN;have iX:=Il aZ Ss;clear aZ dS dT cP iG Ss;have eP:(Qn n).row.length=20:=(Sb n).row;refine bodyPost_ret (E5 rfl _ _ _ _ _ _ rfl eQ Z0 rfl (by simp[Dg,eP])) rfl ⟨by rw[HZ.out];rfl,gS⟩
section
def Qp (c e:UInt8):List UInt8:=c::e::z8 30
attribute [simp, go_sem] Lf
@[simp, go_sem] theorem Ov (c e : UInt8) : (Qp c e).length = 32 := by simp [Qp]
theorem B6x (c e:UInt8) (w:World):(Instr.build 23 #[(0,v8 c),(1,v8 e)]).run Tryz.prog w=.ok (A8 (Qp c e)) w:=by kernel_rfl
attribute [irreducible] Qp
open Classical in
noncomputable def Mb (w:World) (raw:Result Next) (v u:Value):Result Next:=if h:∃p:UInt8×UInt8,v=v8 p.1∧u=v8 p.2 then .ok (.value (A8 (Qp h.choose.1 h.choose.2))) w else raw
theorem Ql (w:World) (raw:Result Next) (c e:UInt8):Mb w raw (v8 c) (v8 e)=.ok (.value (A8 (Qp c e))) w:=by
 have h:∃p:UInt8×UInt8,v8 c=v8 p.1∧v8 e=v8 p.2:=⟨(c,e),rfl,rfl⟩;unfold Mb;rw[dif_pos h,←B6p h.choose_spec.1,←B6p h.choose_spec.2]
@[go_sem] theorem D2b (w : World) (raw : Result Next) (c e : UInt8) : Mb w raw (.int .u8 (n8 c)) (.int .u8 (n8 e)) = .ok (.value (A8 (Qp c e))) w := Ql w raw c e
@[go_sem] theorem D1t (w : World) (raw : Result Next) (c : UInt8) : Mb w raw (.int .u8 (n8 c)) (.int .u8 77) = .ok (.value (A8 (Qp c 77))) w := Ql w raw c 77
@[go_sem] theorem D4e (w : World) (raw : Result Next) (c : UInt8) : Mb w raw (.int .u8 (n8 c)) (.int .u8 3) = .ok (.value (A8 (Qp c 3))) w := Ql w raw c 3
@[go_sem ↓ high] theorem D1f (w : World) (ρ : Operand → Value) (dst : Option Tmp) (ty : TypeId) (pos : String) (after : Array Edge) (guard : Option (Nat × Bool)) (x y : Operand) :
 (execOp ρ { dst,op:=.build 23 #[(0,x),(1,y)],type:=ty,pos,after,guard }).run Tryz.prog w=Mb w (Q0 Tryz.prog ρ { dst,op:=.build 23 #[(0,x),(1,y)],type:=ty,pos,after,guard } w) (ρ x) (ρ y):=by
 unfold Mb;split
 ·rename_i h
  have h1:=h.choose_spec;generalize h.choose=c at h1;refine T6 w ρ dst ty pos after guard _ _ _ ?_;simp only[List.map_toArray,List.map_cons,List.map_nil,h1.1,h1.2];exact B6x c.1 c.2 w
 ·rfl
def Qa (p:Pn):Bool:=I9 (Ng 3 p)==h1 1
theorem B3u (p:Pn) (hp:p.Ok) (w:World):Calls Tryz.prog 114 #[H9 p.row] w fun e w'=>e=.returned (.bool (Qa p))∧Below w.heap.size w w':=by
 have aM:=Lf 1;obtain⟨W0,aH⟩:=F9 ((w.alloc (Obj.cells (C9 p.row).toArray 140)));have hL:W0=M9 w [(140,(C9 p.row))]:=aH;have B0:=Ki hL;have aC:=Ko hL rfl;have z0:=Za 1 hL rfl;clear hL;go_enter Tryz.func114,Tryz.ntmps114;go_wp2_with fail;rw[←aH];clear aH;go_loopw [3] (fun x3 wr=>∃m:Nat,0≤m∧m≤3∧x3=.int .i64 (m:Int)∧Bk wr (w.heap.size) 140 (C9 (Ng m p).row)∧Below w.heap.size w wr∧w.heap.size+1≤wr.heap.size) (fun x3 _=>3-(intOf x3).toNat)
 case atStart=>exact ⟨0,by omega,by omega,rfl,aC,B0,z0⟩
 case round=>
  clear B0 z0 aC;obtain⟨m,aN,hm,rfl,aA,aG,aI⟩:=hrel;by_cases hltm:m<3
  ·
   have hd:decide ((m:Int)<3)=true:=decide_eq_true (by omega);have f1:=Bk.row64 (n:=20) (aA) ((Mt hp m).row);have f2:=Bk.row64 (n:=20) (aA) ((Mt hp m).row);go_wp2_with fail;clear f1 f2;refine (C4g (Ng m p) (Ng m p) (Mt hp m) (Mt hp m) wr).mono ?_;rintro e W3 ⟨rfl,b4⟩;have B3:=K9 aG b4;have z3:=Nat.le_trans aI b4.size;have aB:=aA.bl b4;clear b4 aG aI aA;obtain⟨V5,aD⟩:=F9 (D8 W3 ⟨w.heap.size,0,none⟩ (C9 (A6r (Ng m p) (Ng m p)).row));have aE:Bk V5 (w.heap.size) 140 (C9 (A6r (Ng m p) (Ng m p)).row):=by rw[aD];exact Bk.put64 (aB) ((Mt hp m).row) ((A6s (Ng m p) (Ng m p)).row)
   have aK:=Bi aD B3 (by omega);have aF:=Ee 20 aB ((Mt hp m).row);have aJ:(A6r (Ng m p) (Ng m p)).row.length=20:=(A6s (Ng m p) (Ng m p)).row;go_wp2_with fail;rw[←aD];clear aF aJ;have aL:=Il aD z3;clear aD aB B3 z3;go_roundw;case rel=>exact ⟨m+1,by omega,by omega,by go_num,aE,aK,aL⟩
   case measure=>simp[intOf];omega
  ·
   obtain rfl:m=3:=by omega
   have e3:((3:Nat):Int)=3:=rfl;rw[e3];clear e3;have f6:=Bk.row64 (n:=20) (aA) ((Mt hp 3).row);go_wp2_with fail;clear f6;refine (Nw (Ng 3 p) (Mt hp 3) wr).mono ?_;rintro e W7 ⟨rfl,b8⟩;have B7:=K9 aG b8;clear b8 aG aI aA;go_wp2_with fail;go_ret;exact ⟨rfl,B7⟩
end
theorem Yd {P:Program} {t e:TypeId} {n:Nat} (hu:P.underlying t=some (.array n e)) (w:World) (g o k c:Nat) (hk:n≤k):(Instr.arrayAt t (.slice (some ⟨g,o,none⟩) k c)).run P w=.ok (.pointer (some ⟨g,o,none⟩)) w:=by
 have aA:¬ k<n:=by omega
 simp[Instr.arrayAt,run_underlying hu,aA]
@[go_sem] theorem D4n (w : World) (g o k c : Nat) (hk : 4 ≤ k) : (Instr.arrayAt 182 (.slice (some ⟨g, o, none⟩) k c)).run Tryz.prog w = .ok (.pointer (some ⟨g, o, none⟩)) w := Yd Tryz.underlying182 w g o k c hk
@[go_sem] theorem D1a (w : World) (g o k c : Nat) (hk : 32 ≤ k) : (Instr.arrayAt 23 (.slice (some ⟨g, o, none⟩) k c)).run Tryz.prog w = .ok (.pointer (some ⟨g, o, none⟩)) w := Yd Tryz.underlying23 w g o k c hk
def Zp (b:List UInt8):List UInt64:=wl b 4 32
@[simp, go_sem] theorem Ep (b : List UInt8) : (Zp b).length = 4 := by unfold Zp; simp
def Rf (b:List UInt8):Bool:=Bs (Zp b)==Zp b
def Dq (b:List UInt8):List UInt64:=if Rf b then Zp b else J2 4
theorem Gr (b:List UInt8):(Dq b).length=4:=by unfold Dq;split<;>simp
theorem B8z {b:List UInt8} (h:Rf b=true):Dq b=Zp b:=if_pos h
theorem C4o {b:List UInt8} (h:Rf b=false):Dq b=J2 4:=if_neg (by rw[h];decide)
theorem C3t (b:List UInt8) (hb:b.length=32) (w:World):Calls Tryz.prog 115 #[A8 b] w fun e w'=>e=.returned (.tuple #[H9 (Dq b),.bool (Rf b)])∧Below w.heap.size w w':=by
 have bV:=Gl (Ep b);obtain⟨W0,bF⟩:=F9 (((w.alloc (Obj.cells (c8 b).toArray 23)).alloc (Obj.cells (C9 (J2 4)).toArray 184)));have hL:W0=M9 w [(23,(c8 b)),(184,(C9 (J2 4)))]:=bF;have B0:=Ki hL;have aN:=Ko hL rfl;have aW:=Ig 1 hL rfl;have z0:=Za 2 hL rfl;clear hL;go_enter Tryz.func115,Tryz.ntmps115;go_wp2_with fail;rw[←bF];clear bF;refine (A4n b 32 4 w.heap.size _ hb rfl (by decide) W0 aN).mono ?_;rintro e W1 ⟨p3,rfl,aB,bR,b2⟩;clear bR;have B1:=K9 B0 b2;have z1:=Nat.le_trans z0 b2.size;have aX:=aN.bl b2;have aO:=aW.bl b2;clear b2 B0 z0 aN aW;have aB:Bk W1 (p3) 117 (C9 (Zp b)):=aB;obtain⟨V5,aU⟩:=F9 (W1.alloc (Obj.cells (C9 (J2 4)).toArray 182));have aV:W1.heap.size=W1.heap.size:=rfl;have aC:Bk V5 (W1.heap.size) 182 (C9 (J2 4)):=by rw[aU,←aV];exact Bk.new W1 _ _
 have aK:=Ac aU aO;have bN:=Lk aU B1;have aD:=Aj aV aX;have aE:=Aj aV aO;have aF:=Aj aV aB;have aY:w.heap.size+2≤W1.heap.size:=by rw[←aV];exact Nat.le_trans z1 (Nat.le_refl _)
 clear aV;obtain⟨V6,aZ⟩:=F9 (D8 V5 ⟨W1.heap.size,0,none⟩ (C9 (Zp b)));have aA:=Fi 4 aZ aC (by simp) (Ep b);have aL:=J3 aZ aK (by omega);have bO:=Bi aZ bN (by omega);have f4:=Bk.row64 (n:=4) (aB) ((Ep b));have aM:=Ee 4 aC (by simp);rw[aU]at aM;have aG:(Zp b).length=4:=(Ep b);go_wp2_with fail;rw[←aU,←aZ];clear f4 aM aG;obtain⟨p7,bG⟩:=F9 (W1.heap.size);rw[←bG]at aA aD aE aF aY;try rw[←bG]
 clear aU aZ bG aX aO aB B1 z1 aK aC bN;have S8:=Fx V6;refine Fa (fun W=>Bk W (p7) 182 (C9 (Zp b))) ?_;refine Df (A:=?bX) [0,2] (aA.drew) (fun W hW=>?bS) ?bY;case bS=>
  have f0:=Bk.row64 (n:=4) (hW) ((Ep b));exact Ei
 refine J8 [zv 1 10 (H9 (Bs (Zp b))),zv 3 12 (.bool (!(Bs (Zp b)==Zp b)))] (by kernel_rfl) (fun W hW=>(aA.drew.bl hW)) ?bA ?bB ?bC;case bA=>exact Ln
 case bB=>
  refine (P5 ⟨?bH,(P5 ⟨?bI,Kh⟩)⟩);case bH=>
   exact Tq fun W=>Qd (Zp b) (Ep b) W
  case bI=>intro o ho us W hW hp Q' hQ';obtain rfl:=Option.some.inj ho;have bD:us 1=(H9 (Bs (Zp b))):=hp 0 _ rfl (by kernel_rfl);clear hp ho;rw[C7]at hQ' ⊢;dsimp only[F0,H8,List.foldl,zv,za]at hQ' ⊢;simp only[Ch];rw[bD]at hQ' ⊢;clear bD;go_wp2_with fail;exact Cz (hQ' _ _ (Below.refl _ _) rfl nofun)
 case bC=>
 intro us W9 bP hg bJ bT;have bD:us 1=(H9 (Bs (Zp b))):=hg _ (O8 0 rfl);have bQ:us 3=(.bool (!(Bs (Zp b)==Zp b))):=hg _ (O8 1 rfl);have bE:=K9 S8 bP;refine Pv ?_;rw[bD,bQ];clear hg bJ bT bD bQ bP S8;have B9:=K9 bO bE;have aH:=aL.bl bE;have bK:=aA.bl bE;clear bE bO aL aA;refine Ef ?_;cases hz:(Bs (Zp b)==Zp b);case false=>
  rw[Bool.not_false];have HE:=Lib.hid (C4o hz);have HB:Hid (Rf b=false):=Lib.hid hz;clear hz;obtain⟨bZ,aI⟩:=F9 (D8 W9 ⟨w.heap.size+1,0,none⟩ (C9 (J2 4)));have aP:=Fi 4 aI aH (by simp) (by simp);have bL:=Bi aI B9 (by omega);have aQ:=Ee 4 aH (by simp);have aG:(J2 4).length=4:=(show (J2 4).length=4 from by simp);go_wp2_with fail;rw[←aI];clear aQ aG;clear aI;have aR:(J2 4).length=4:=(show (J2 4).length=4 from by simp);refine bodyPost_ret (v:=.tuple #[H9 (J2 4),.bool false]) ?_ rfl ⟨?_,bL⟩
  ·refine N9 rfl ?_ ?_
   ·exact M7.row aP rfl _ Fw rfl (by simp[Jp,aR])
   ·exact M7.tmp rfl
  ·rw[HE.out,HB.out]
 case true=>
  rw[Bool.not_true];have HE:=Lib.hid (B8z hz);have HB:Hid (Rf b=true):=Lib.hid hz;clear hz;obtain⟨cA,aJ⟩:=F9 (D8 W9 ⟨w.heap.size+1,0,none⟩ (C9 (Zp b)));have aS:=Fi 4 aJ aH (by simp) (Ep b);have bM:=Bi aJ B9 (by omega);have bU:=Bk.row64 (n:=4) (bK) ((Ep b));have aT:=Ee 4 aH (by simp);have aG:(Zp b).length=4:=(Ep b);go_wp2_with fail;rw[←aJ];clear bU aT aG;clear aJ;have aR:(Zp b).length=4:=(Ep b);refine bodyPost_ret (v:=.tuple #[H9 (Zp b),.bool true]) ?_ rfl ⟨?_,bM⟩
  ·refine N9 rfl ?_ ?_
   ·exact M7.row aS rfl _ Fw rfl (by simp[Jp,aR])
   ·exact M7.tmp rfl
  ·rw[HE.out,HB.out]
def mT (x y t c:UInt64):UInt64:=Wj (Wj (x*y) t 0) c 0
def mC (x y t c:UInt64):UInt64:=A7k x y+Yz (x*y) t 0+Yz (Wj (x*y) t 0) c 0
def mIn (x:UInt64) (b:List UInt64) (i:Nat) (t:List UInt64):Nat→List UInt64×UInt64
 | 0=>(t,0)
 | j+1=>((mIn x b i t j).1.set (i+j) (mT x (E9 b j) (E9 (mIn x b i t j).1 (i+j)) (mIn x b i t j).2),mC x (E9 b j) (E9 (mIn x b i t j).1 (i+j)) (mIn x b i t j).2)
theorem Oo (x:UInt64) (b:List UInt64) (i:Nat) (t:List UInt64):∀j,(mIn x b i t j).1.length=t.length
 | 0=>rfl
 | j+1=>by show (List.set _ _ _).length=_;rw[List.length_set];exact Oo x b i t j
def A6h (a b:List UInt64):Nat→List UInt64
 | 0=>J2 8
 | i+1=>(mIn (E9 a i) b i (A6h a b i) 4).1.set (i+4) (mIn (E9 a i) b i (A6h a b i) 4).2
theorem Qh (a b:List UInt64):∀i,(A6h a b i).length=8
 | 0=>by show (J2 8).length=8;simp
 | i+1=>by show (List.set _ _ _).length=_;rw[List.length_set,Oo];exact Qh a b i
def Fy (a b:List UInt64):List UInt64:=Qx (A6h a b 4)
theorem A9x (a b:List UInt64):(Fy a b).length=4:=It _
theorem C3v (a b:List UInt64) (ha:a.length=4) (hb:b.length=4) (w:World):Calls Tryz.prog 109 #[H9 a,H9 b] w fun e w'=>e=.returned (H9 (Fy a b))∧Below w.heap.size w w':=by
 obtain⟨W0,aA⟩:=F9 ((((w.alloc (Obj.cells (C9 a).toArray 184)).alloc (Obj.cells (C9 b).toArray 184)).alloc (Obj.cells (C9 (J2 4)).toArray 184)).alloc (Obj.cells (C9 (J2 8)).toArray 155));have hL:W0=M9 w [(184,C9 a),(184,C9 b),(184,C9 (J2 4)),(155,C9 (J2 8))]:=aA;have B0:=Ki hL;have K0:=Ko hL rfl;have L0:=Ig 1 hL rfl;have R0:=Ig 2 hL rfl;have D0:=Ig 3 hL rfl;have ra:=K0.row64 ha;rw[aA]at ra;clear hL;go_enter Tryz.func109,Tryz.ntmps109;go_wp2_with fail;rw[←aA];clear aA ra K0;go_loopw [16] (fun x wr=>∃i:Nat,i≤4∧x=.int .i64 (i:Int)∧Bk wr (w.heap.size+1) 184 (C9 b)∧Bk wr (w.heap.size+2) 184 (C9 (J2 4))∧Bk wr (w.heap.size+3) 155 (C9 (A6h a b i))∧Below w.heap.size w wr) (fun x _=>4-(intOf x).toNat)
 case atStart=>exact ⟨0,by omega,rfl,L0,R0,D0,B0⟩
 case round=>
  clear L0 R0 D0 B0;obtain⟨i,hi,rfl,L,R,D,B⟩:=hrel;by_cases hlt:i<4
  ·obtain⟨x,hx⟩:=F9 (E9 a i);obtain⟨t,ht⟩:=F9 (A6h a b i);have aD:t.length=8:=by rw[ht];exact Qh a b i
   have HN:Hid (A6h a b (i+1)=(mIn x b i t 4).1.set (i+4) (mIn x b i t 4).2):=Lib.hid (by rw[ht,hx];rfl);have aI:decide ((i:Int)<4)=true:=decide_eq_true (by omega);rw[←ht]at D;clear ht;have aE:=Lib.hid aD;clear aD;have D0:Bk wr (w.heap.size+3) 155 (C9 (mIn x b i t 0).1):=D;have rb:=L.row64 hb;have aF:E9 a i=x:=hx.symm;clear hx D;go_wp2_with fail;clear rb aF;go_loopw [22,8] (fun y c wr=>∃j:Nat,j≤4∧y=.int .i64 (j:Int)∧c=.int .u64 (J4 (mIn x b i t j).2)∧Bk wr (w.heap.size+1) 184 (C9 b)∧Bk wr (w.heap.size+2) 184 (C9 (J2 4))∧Bk wr (w.heap.size+3) 155 (C9 (mIn x b i t j).1)∧Below w.heap.size w wr) (fun y _ _=>4-(intOf y).toNat)
   case atStart=>exact ⟨0,by omega,rfl,rfl,L,R,D0,B⟩
   case round=>
    clear L R D0 B;obtain⟨j,hj,rfl,rfl,L,R,D,B⟩:=hrel;by_cases hlj:j<4
    ·obtain⟨u,hu⟩:=F9 ((mIn x b i t j).1);obtain⟨c,hc⟩:=F9 ((mIn x b i t j).2);obtain⟨q,hq⟩:=F9 (i+j);obtain⟨y,hy⟩:=F9 (E9 b j);obtain⟨v,hv⟩:=F9 (E9 u q);have aC:u.length=8:=by rw[hu,Oo];exact aE.out
     have HI:Hid (mIn x b i t (j+1)=(u.set q (mT x y v c),mC x y v c)):=Lib.hid (by rw[hv,hy,hu,hc,hq];rfl);rw[←hu]at D;rw[←hc];have aJ:(i:Int)+(j:Int)=(q:Int):=by omega
     have aK:q<8:=by omega
     have aL:decide ((j:Int)<4)=true:=decide_eq_true (by omega);have d0:=D.at_ (J6 (l:=u) (i:=q) (by omega));rw[←hv]at d0;have aM:E9 b j=y:=hy.symm;have f0:=D.frozen q;have D3:=D.set_ q (.int .u64 (J4 (mT x y v c)));rw[Af]at D3;clear hu hc hq hy hv aC;go_wp2_with fail;refine (Wu x y wr).mono ?_;rintro e w2 ⟨rfl,rfl⟩;go_wp2_with fail;go_roundw;case rel=>exact ⟨j+1,by omega,by go_num,by rw[HI.out];rfl,L.far (by show w.heap.size+1≠w.heap.size+3;omega) _,R.far (by show w.heap.size+2≠w.heap.size+3;omega) _,by rw[HI.out];exact D3,B.setCell (by show w.heap.size≤w.heap.size+3;omega) _⟩
     case measure=>simp[intOf];omega
    ·obtain rfl:j=4:=by omega
     have e4:((4:Nat):Int)=4:=rfl;rw[e4];clear e4;obtain⟨u,hu⟩:=F9 ((mIn x b i t 4).1);obtain⟨c,hc⟩:=F9 ((mIn x b i t 4).2);have aC:u.length=8:=by rw[hu,Oo];exact aE.out
     have HI:Hid (A6h a b (i+1)=u.set (i+4) c):=Lib.hid (by rw[HN.out,hu,hc]);rw[←hu]at D;rw[←hc];have aN:((i:Int)+4).toNat=i+4:=by omega
     have d0:=D.at_ (J6 (l:=u) (i:=i+4) (by omega));have f0:=D.frozen (i+4);have D3:=D.set_ (i+4) (.int .u64 (J4 c));rw[Af]at D3;clear hu hc aC;go_wp2_with fail;go_roundw;case rel=>exact ⟨i+1,by omega,by go_num,L.far (by show w.heap.size+1≠w.heap.size+3;omega) _,R.far (by show w.heap.size+2≠w.heap.size+3;omega) _,by rw[HI.out];exact D3,B.setCell (by show w.heap.size≤w.heap.size+3;omega) _⟩
     case measure=>simp[intOf];omega
  ·obtain rfl:i=4:=by omega
   have e4:((4:Nat):Int)=4:=rfl;rw[e4];clear e4;obtain⟨ws,aB⟩:=F9 (A6h a b 4);have aG:ws.length=8:=by rw[aB];exact Qh a b 4
   have HS:Hid (Fy a b=Qx ws):=Lib.hid (by rw[aB];rfl);rw[←aB]at D;clear aB;go_wp2_with fail;refine (A4v ws 8 (w.heap.size+3) _ aG (by decide) wr D).mono ?_;rintro e w2 ⟨rfl,b2⟩;have R2:=R.bl b2;have B2:=K9 B b2;have hl:=It ws;have aH:=Gy 4 R2 (by simp);go_wp2_with fail;refine bodyPost_ret (E5 rfl _ _ _ _ _ _ rfl (R2.puts (vs:=C9 (Qx ws)) (by simp[hl])) Fw rfl (by simp[Jp,hl])) rfl ⟨by rw[HS.out];rfl,C5 B2 (by show w.heap.size≤w.heap.size+2;omega) _⟩
theorem D5x:(Tryz.prog.info? 45).map (fun i=>(i.zero,i.size,i.bytes))=some (some (.slice none 0 0),1,24):=by kernel_rfl
theorem N8.one_cells {w:World} {B:Nat} {vs:List Value} {ls:List (List UInt8)} (h2:vs.length=ls.length) (h3:∀(i:Nat) (x:Value) (l:List UInt8),vs[i]?=some x→ls[i]?=some l→By w 0 B x l):∀u∈vs,u.oneCell'=true:=by
 intro u hu;obtain⟨i,hi⟩:=List.getElem?_of_mem hu;have aA:=(List.getElem?_eq_some_iff.1 hi).1;obtain⟨A,c,rfl,_⟩:=(h3 i u _ hi (List.getElem?_eq_getElem (by omega))).open_;rfl
theorem N8.join {w w':World} {v:Value} {vs vs':List Value} {ls ls':List (List UInt8)} (hv:vs.length=ls.length) (hv':vs'.length=ls'.length) (hs:Sl w' 0 w'.heap.size v (vs++vs')) (hb:Below w.heap.size w w')
 (h3:∀(i:Nat) (x:Value) (l:List UInt8),vs[i]?=some x→ls[i]?=some l→By w 0 w.heap.size x l) (h3':∀(i:Nat) (x:Value) (l:List UInt8),vs'[i]?=some x→ls'[i]?=some l→By w 0 w.heap.size x l):N8 w' w'.heap.size v (ls++ls'):=by
 refine ⟨vs++vs',hs,by simp[hv,hv'],fun i x l hx hl=>?_⟩;by_cases hi:i<vs.length
 ·rw[List.getElem?_append_left hi]at hx;rw[List.getElem?_append_left (by omega)]at hl;exact ((h3 i x l hx hl).below hb).more hb.size
 ·rw[List.getElem?_append_right (by omega)]at hx;rw[List.getElem?_append_right (by omega),←hv]at hl;exact ((h3' _ x l hx hl).below hb).more hb.size
theorem A0p (g o n:Nat) (vp:Value) (ls ps:List (List UInt8)) (w:World) (ha:N8 w w.heap.size (.slice (some ⟨g,o,none⟩) n n) ls) (hp:N8 w w.heap.size vp ps) (h0:0<ps.length) (hsz:ls.length+ps.length≤1000000) :
 Calls Tryz.prog 106 #[vp,.slice (some ⟨g,o,none⟩) n n] w fun e w'=>∃v,e=.returned v∧N8 w' w'.heap.size v (ls++ps)∧Below w.heap.size w w':=by
 obtain⟨vs,⟨A,c,e1,h1,h2,aL⟩,aM,aN⟩:=ha;obtain⟨aA,⟨A',c',rfl,bA,bB,aF⟩,aC,aD⟩:=hp;injection e1 with e1 e2 e3;subst e1 e2 e3;obtain⟨i0,aO,aP,aQ,aR⟩:=info_parts D5x;have hn:aA.length≠0:=by omega
 have aG:∀j u,vs[j]?=some u→w.cell? ⟨g,o+j,none⟩=some u:=by
  rcases aL with h | ⟨g',o',e,_,_,hc⟩
  ·intro j u hj;rw[h]at hj;cases hj
  ·injection e with e;injection e with e1 e2;subst e1 e2;exact hc
 rcases aF with h | ⟨g',o',rfl,_,_,hc'⟩
 ·rw[h]at hn;exact absurd rfl hn
 have aB:=N8.one_cells aC aD;have bC:Hid _:=Lib.hid aG;have aS:Hid _:=Lib.hid hc';have aT:Hid _:=Lib.hid aN;have aH:Hid _:=Lib.hid aD;have aI:Hid _:=Lib.hid aB;have aU:=Lib.hid aO;have aV:=Lib.hid aP;have aW:=Lib.hid aQ;have aX:=Lib.hid aR;have aY:=Lib.hid aM;have aJ:=Lib.hid aC;have K1:Hid (some (⟨g,o,none⟩:Addr)=none→vs.length=0∧vs.length=0):=Lib.hid (fun h=>by cases h);have K2:Hid (vs.length=vs.length*1):=Lib.hid (by omega);have K3:Hid (∀b:Addr,some (⟨g,o,none⟩:Addr)=some b→∀j u,vs[j]?=some u→w.cell? (b.add j)=some u):=Lib.hid (fun b hb j u hj=>by injection hb with hb;subst hb;rw[Am];exact aG j u hj);have K4:Hid (aA.length=aA.length*1):=Lib.hid (by omega);have K5:Hid (∀j u,aA[j]?=some u→w.cell? ((⟨g',o',none⟩:Addr).add j)=some u):=Lib.hid (fun j u hj=>by rw[Am];exact hc' j u hj);have K6:Hid (vs.length<vs.length+aA.length):=Lib.hid (by omega);have K7:Hid (vs.length+aA.length≤maxLen):=Lib.hid (by simp only[maxLen];omega);have K8:Hid ((vs.length+aA.length)*24≤140737488355328):=Lib.hid (by omega);clear aG hc' aN aD aB aO aP aQ aR aM aC aL;go_enter Tryz.func106,Tryz.ntmps106;go_wp2_with (at_builtin;refine wpList_append_grows _ rfl _ _ 152 rfl 45 i0 _ 1 24 Tryz.underlying152 aU.out aV.out aW.out aX.out rfl (by decide) (some ⟨g,o,none⟩) vs.length vs.length vs rfl K1.out K2.out K3.out ⟨g',o',none⟩ aA.length c' aA rfl K4.out K5.out aI.out K6.out K7.out K8.out ?_;intro v' w' aK aZ)
 have aE:Below w.heap.size w w':=(Below.refl w.heap.size w).grown aZ (Nat.le_refl _) (fun k hk=>by cases hk);go_ret;exact ⟨v',rfl,N8.join aY.out aJ.out (Sl.less (Sl.of_own aK) (Nat.zero_le _)) aE aT.out aH.out,aE⟩
theorem N8.up {w w':World} {v:Value} {ls:List (List UInt8)} (h:N8 w w.heap.size v ls) (hb:Below w.heap.size w w'):N8 w' w'.heap.size v ls:=(h.below hb).more hb.size
theorem By.up {w w':World} {v:Value} {l:List UInt8} (h:By w 0 w.heap.size v l) (hb:Below w.heap.size w w'):By w' 0 w'.heap.size v l:=(h.below hb).more hb.size
theorem Bk.by {w:World} {g:Nat} {t:TypeId} {l m:List UInt8} (K:Bk w g t (c8 l)) (o n c:Nat) (hn:o+n≤l.length) (hc:n≤c) (hc2:c≤9223372036854775807) (hm:(l.drop o).take n=m):By w 0 w.heap.size (.slice (some ⟨g,o,none⟩) n c) m:=by
 have aA:m.length=n:=by rw[←hm];simp;omega
 have:=By.mk_ (w:=w) (lo:=0) (B:=w.heap.size) (A:=some ⟨g,o,none⟩) (c:=c) (l:=m) (by omega) (by unfold maxLen;exact hc2) (.inr ⟨g,o,rfl,Nat.zero_le _,K.lt,fun j u hj=>K.at_ (by
  have h1:j<m.length:=by have:=(List.getElem?_eq_some_iff.1 hj).1;simpa using this
  rw[←hj,←hm];simp only[c8,List.map_take,List.map_drop,List.getElem?_take,List.getElem?_drop];rw[if_pos (by omega)])⟩)
 rwa [aA]at this
theorem Bk.byAll {w:World} {g:Nat} {t:TypeId} {l:List UInt8} {n:Nat} (K:Bk w g t (c8 l)) (hl:l.length=n) (hn:n≤9223372036854775807):By w 0 w.heap.size (.slice (some ⟨g,0,none⟩) n n) l:=
 K.by 0 n n (by omega) (Nat.le_refl _) hn (by rw[List.drop_zero,List.take_of_length_le (by omega)])
def zs (i:Nat) (d:Tmp) (n:Nat) (ls:List (List UInt8)):Soup:=⟨i,d,fun v w=>∃g,v=.slice (some ⟨g,0,none⟩) n n∧N8 w w.heap.size v ls,false⟩
def zp (i:Nat) (d:Tmp) (ls:List (List UInt8)):Soup:=⟨i,d,fun v w=>N8 w w.heap.size v ls,false⟩
def zb (i:Nat) (d:Tmp) (l:List UInt8):Soup:=⟨i,d,fun v w=>By w 0 w.heap.size v l,false⟩
theorem zs_mono (i:Nat) (d:Tmp) (n:Nat) (ls:List (List UInt8)):(zs i d n ls).mono:=fun _ _ _ ⟨g,e,h⟩ hb=>⟨g,e,h.up hb⟩
theorem zp_mono (i:Nat) (d:Tmp) (ls:List (List UInt8)):(zp i d ls).mono:=fun _ _ _ h hb=>h.up hb
theorem zb_mono (i:Nat) (d:Tmp) (l:List UInt8):(zb i d l).mono:=fun _ _ _ h hb=>h.up hb
def Zm (l:List UInt8):List UInt64:=Sy (Yh l)
theorem Zy (l:List UInt8):(Zm l).length=4:=Gv _
theorem B3l (vp:Value) (ls:List (List UInt8)) (w:World) (hp:N8 w w.heap.size vp ls) (hsz:ls.flatten.length≤1099511627776):Calls Tryz.prog 105 #[vp] w fun e w'=>e=.returned (H9 (Zm ls.flatten))∧Below w.heap.size w w':=by
 obtain⟨W0,aA⟩:=F9 (w.alloc (Obj.cells (C9 (J2 4)).toArray 184));have B0:=BA' aA;have R0:=KN' aA;have P0:=Lib.hid (hp.up B0);clear hp;go_enter Tryz.func105,Tryz.ntmps105;go_wp2_with fail;rw[←aA];clear aA;refine (A1q vp ls W0 P0.out hsz).mono ?_;rintro e w1 ⟨rfl,b1⟩;have R1:=R0.bl b1;have B1:=K9 B0 b1;obtain⟨h,hh⟩:=F9 (Yh ls.flatten);have hl:h.length=64:=by rw[hh];exact Uw _
 have HN:Hid (Zm ls.flatten=Sy h):=Lib.hid (by rw[hh];rfl);rw[←hh];clear hh;go_wp2_with fail;refine (A4z h hl w1).mono ?_;rintro e w2 ⟨rfl,b2⟩;have R2:=R1.bl b2;have B2:=K9 B1 b2;have aB:=Gv h;have aC:=Gy 4 R2 (by simp);go_wp2_with fail;refine bodyPost_ret (E5 rfl _ _ _ _ _ _ rfl (R2.puts (vs:=C9 (Sy h)) (by simp[aB])) Fw rfl (by simp[Jp,aB])) rfl ⟨by rw[HN.out];rfl,C5 B2 (Nat.le_refl _) _⟩
theorem RG' {P Q : Prop} (q : Q) (h : Q → P := by
  intro q
  rw [C7]
  dsimp only [H8, List.foldl, zv, za, zs, zp, zb]
  simp only [List.set_cons_succ, List.set_cons_zero]
  exact q) : P := h q
theorem KG' {Q : World → Prop} {P : Prop} (c : ∀ W, Q W) (h : (∀ W, Q W) → P := by
  intro c o ho us W hW hp Q' hQ'
  obtain rfl := Option.some.inj ho
  clear hp ho
  rw [C7] at hQ' ⊢
  dsimp only [F0, H8, List.foldl, zv, za, zs, zp, zb] at hQ' ⊢
  simp only [List.set_cons_succ, List.set_cons_zero]
  go_wp2_with fail
  refine (c W).mono ?_
  rintro e W2 ⟨rfl, b2⟩
  go_wp2_with fail
  exact Jr (hQ' _ _ b2 rfl (fun h => by cases h)) (by kernel_rfl)) : P := h c
end Go.Proofs.YtlegpkdighoflaaGreat
