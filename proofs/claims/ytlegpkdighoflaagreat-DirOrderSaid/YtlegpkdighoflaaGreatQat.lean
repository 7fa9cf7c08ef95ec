/- A part of the proof of DirOrder. -/
import Derived.ArgAppend
import Derived.Test.YtlegpkdighoflaaGreatQas
set_option linter.unusedVariables false
set_option linter.unusedSimpArgs false
set_option maxRecDepth 100000
set_option maxHeartbeats 40000000
namespace Go.Proofs.YtlegpkdighoflaaGreat
open Go Go.RowKit Sh
noncomputable def Gr (p:Pn) (n:List UInt8):Nat→Pn
 | 0=>O9 (M5 p I9) 0
 | m+1=>T6 (Bn 4 (Gr p n m)) (O9 (M5 p I9) (dg n (63-m))) I9
theorem Fa {p:Pn} (hp:p.Ok) (n:List UInt8):∀m,(Gr p n m).Ok
 | 0=>(Y7 hp I9).at 0
 | m+1=>Bd _ _ _
noncomputable def J3 (p:Pn) (n:List UInt8):Pn:=if p.row==E4.row then Ng n else Gr p n 64
theorem A0y {p:Pn} (hp:p.Ok) (n:List UInt8):(J3 p n).Ok:=by
 unfold J3;split
 ·exact Ph n
 ·exact Fa hp n 64
theorem A2x {p:Pn} (n:List UInt8) (h:(p.row==E4.row)=true):J3 p n=Ng n:=if_pos h
theorem C1a {p:Pn} (n:List UInt8) (h:(p.row==E4.row)=false):J3 p n=Gr p n 64:=if_neg (by rw[h];decide)
theorem Yr (p:Pn) (n:List UInt8) (hp:p.Ok) (hn:n.length=32) (w:World):Calls Tryz.prog 66 #[H7 p.row,A8 n] w fun e w'=>e=.returned (H7 (J3 p n).row)∧Below w.heap.size w w':=by
 have iW:=hp.row;have iX:=Bc.row;obtain⟨W0,fY⟩:=H8 ((((w.alloc (Obj.cells (C9 p.row).toArray 140)).alloc (Obj.cells (c8 n).toArray 23)).alloc (Obj.cells (C9 (I3 20)).toArray 140)));have hL:W0=M2 w [(140,(C9 p.row)),(23,(c8 n)),(140,(C9 (I3 20)))]:=fY;have B0:=Jc hL;have cR:=Jy hL rfl;have eU:=Gs 1 hL rfl;have eV:=Gs 2 hL rfl;have z0:=Vp 3 hL rfl;have iF:=SL' 3 hL rfl;clear hL;go_enter Tryz.func66,Tryz.ntmps66;go_wp2_with fail;rw[←fY];clear fY iF;have S1:=Eo W0;refine Dm (fun W=>Bk W (w.heap.size) 140 (C9 p.row)) ?_;refine Cf (A:=?iY) [0] (cR.drew) (fun W hW=>?iG) ?iZ;case iG=>have f0:=Bk.row64 (n:=20) (hW) (hp.row);exact Dd
 refine J2 [zv 1 10 (H7 E4.row),zv 2 11 (.bool (p.row==E4.row))] (by kernel_rfl) (fun W hW=>(cR.drew.bl hW)) ?eW ?eX ?eY;case eW=>exact Jz
 case eX=>
  refine (N7 ⟨?fZ,(N7 ⟨?gD,Ik⟩)⟩);case fZ=>
   exact Qj fun W=>Oo W
  case gD=>intro o ho us W hW hp Q' hQ';obtain rfl:=Option.some.inj ho;have eZ:us 1=(H7 E4.row):=hp 0 _ rfl (by kernel_rfl);clear hp ho;rw[C8]at hQ' ⊢;dsimp only[F8,I2,List.foldl,zv,za]at hQ' ⊢;simp only[Bu];rw[eZ]at hQ' ⊢;clear eZ;go_wp2_with fail;exact Hi (hQ' _ _ (Below.refl _ _) rfl (fun h=>by cases h)) (by kernel_rfl)
 case eY=>
 intro us W2 b3 hg dU gE;have eZ:us 1=(H7 E4.row):=hg _ (M6 0 rfl);have gU:us 2=(.bool (p.row==E4.row)):=hg _ (M6 1 rfl);have b4:=J5 S1 b3;refine Mu ?_;rw[eZ,gU];clear hg dU gE eZ gU b3 S1;have B2:=J5 B0 b4;have z2:=Nat.le_trans z0 b4.size;have cS:=cR.bl b4;have bC:=eU.bl b4;have cT:=eV.bl b4;clear b4 B0 z0 cR eU eV;refine Cu ?_;cases hz:(p.row==E4.row);case false=>
  have HZ:=Lib.hid (C1a n hz);clear hz;go_wp2_with fail;refine (Se W2).mono ?_;rintro e W5 ⟨rfl,b6⟩;have B5:=J5 B2 b6;have z5:=Nat.le_trans z2 b6.size;have dV:=cS.bl b6;have dW:=bC.bl b6;have dX:=cT.bl b6;clear b6 B2 z2 cS bC cT;obtain⟨V7,bD⟩:=H8 (W5.alloc (Obj.cells (C9 (I3 5)).toArray 138));have eS:W5.heap.size=W5.heap.size:=rfl;have bE:Bk V7 (W5.heap.size) 138 (C9 (I3 5)):=by rw[bD,←eS];exact Bk.new W5 _ _
  have cX:=Y3 bD dV;have cY:=Y3 bD dW;have cZ:=Y3 bD dX;have gV:=Jx bD B5;have bF:=Y9 eS dV;have bG:=Y9 eS dW;have bH:=Y9 eS dX;have fD:w.heap.size+3≤W5.heap.size:=by rw[←eS];exact Nat.le_trans z5 (Nat.le_refl _)
  clear eS;obtain⟨V8,cQ⟩:=H8 (E0 V7 ⟨W5.heap.size,0,none⟩ (C9 I9));have bA:=Dl 5 cQ bE (by simp) Q4;have bI:=I4 cQ cX (by omega);have dB:=I4 cQ cY (by omega);have dC:=I4 cQ cZ (by omega);have gW:=Z9 cQ gV (by omega);have dD:=Ck 5 bE (by simp);rw[bD]at dD;have f9:=Bk.row64 (n:=20) (bI) (hp.row);rw[cQ,bD]at f9;have Ut:=Bk.row64 (n:=5) (bA) (Q4);rw[cQ,bD]at Ut;have aN:I9.length=5:=Q4;go_wp2_with fail;rw[←bD,←cQ];clear dD f9 Ut aN;obtain⟨gF,dY⟩:=H8 (W5.heap.size);rw[←dY]at bA bF bG bH fD;try rw[←dY]
  have gX:w.heap.size+3≤V8.heap.size:=by have hz:=z5;rw[cQ,bD];first | (simp;omega) | (simp[World.setCell];omega)
  clear bD cQ dY dV dW dX B5 z5 cX cY cZ bE gV;refine (Xl p I9 hp Q4 V8).mono ?_;rintro e bB ⟨rfl,dZ⟩;have gY:=J5 gW dZ;have fX:=Nat.le_trans gX dZ.size;have bJ:=bI.bl dZ;have bK:=dB.bl dZ;have bL:=dC.bl dZ;have bM:=bA.bl dZ;clear dZ gW gX bI dB dC bA;obtain⟨gZ,aF⟩:=H8 (bB.alloc (Obj.cells (C9 (I3 320)).toArray 177));have aQ:bB.heap.size=bB.heap.size:=rfl;have aR:Bk gZ (bB.heap.size) 177 (C9 (I3 320)):=by rw[aF,←aQ];exact Bk.new bB _ _
  have bN:=Y3 aF bJ;have bO:=Y3 aF bK;have bP:=Y3 aF bL;have bQ:=Y3 aF bM;have fE:=Jx aF gY;have bR:=Y9 aQ bJ;have bS:=Y9 aQ bK;have bT:=Y9 aQ bL;have bU:=Y9 aQ bM;have fF:w.heap.size+3≤bB.heap.size:=by rw[←aQ];exact Nat.le_trans fX (Nat.le_refl _)
  clear aQ;obtain⟨gG,aH⟩:=H8 (E0 gZ ⟨bB.heap.size,0,none⟩ (C9 (Pl (M5 p I9))));have aO:=Dl 320 aH aR (by simp) (by rw[Q9 (Y7 hp I9)];simp);have aS:=I4 aH bN (by omega);have aT:=I4 aH bO (by omega);have aU:=I4 aH bP (by omega);have aV:=I4 aH bQ (by omega);have fG:=Z9 aH fE (by omega);obtain⟨hE,aI⟩:=H8 (gG.alloc (Obj.cells (C9 (I3 20)).toArray 140));have aP:gG.heap.size=bB.heap.size+1:=by rw[aH,aF];simp
  have aW:Bk hE (bB.heap.size+1) 140 (C9 (I3 20)):=by rw[aI,←aP];exact Bk.new gG _ _
  have bV:=Y3 aI aS;have bX:=Y3 aI aT;have bY:=Y3 aI aU;have bZ:=Y3 aI aV;have cA:=Y3 aI aO;have fH:=Jx aI fG;have cB:=Y9 aP aS;have cC:=Y9 aP aT;have cD:=Y9 aP aU;have cE:=Y9 aP aV;have cF:=Y9 aP aO;have fI:w.heap.size+3≤bB.heap.size+1:=by rw[←aP];exact Nat.le_trans fX (by rw[aP];omega)
  clear aP;obtain⟨iH,aJ⟩:=H8 (E0 hE ⟨bB.heap.size+1,0,none⟩ (C9 (O9 (M5 p I9) 0).row));have aX:=Dl 20 aJ aW (by simp) (((Y7 hp I9).at 0).row);have cG:=I4 aJ bV (by omega);have cH:=I4 aJ bX (by omega);have cI:=I4 aJ bY (by omega);have cJ:=I4 aJ bZ (by omega);have aY:=I4 aJ cA (by omega);have fJ:=Z9 aJ fH (by omega);have cK:=Ck 320 aR (by simp);rw[aF]at cK;have hF:=show I6 _ ⟨_,0,none⟩ 20=some (C9 (O9 (M5 p I9) 0).row) from Bk.plAt (i:=0) (aO) (Y7 hp I9) (by simp;try omega);rw[aH,aF]at hF;have cL:=Ck 20 aW (by simp);rw[aI,aH,aF]at cL;have aN:(Pl (M5 p I9)).length=320:=(show (Pl (M5 p I9)).length=320 from by rw[Q9 (Y7 hp I9)];simp);have gH:(O9 (M5 p I9) 0).row.length=20:=((Y7 hp I9).at 0).row;go_wp2_with fail;rw[←aF,←aH,←aI,←aJ];clear cK hF cL aN gH;obtain⟨cM,eA⟩:=H8 (bB.heap.size);rw[←eA]at aY aX bR bS bT bU fF cB cC cD cE cF fI;try rw[←eA]
  have fK:w.heap.size+3≤iH.heap.size:=by have hz:=fX;rw[aJ,aI,aH,aF];first | (simp;omega) | (simp[World.setCell];omega)
  clear aF aH aI aJ eA bJ bK bL bM gY fX bN bO bP bQ aR fE aS aT aU aV aO fG bV bX bY bZ cA aW fH;go_loopw [8] (fun x8 wr=>∃m:Nat,0≤m∧m≤64∧x8=.int .i64 (63-(m:Int))∧Bk wr (w.heap.size) 140 (C9 p.row)∧Bk wr (w.heap.size+1) 23 (c8 n)∧Bk wr (w.heap.size+2) 140 (C9 (I3 20))∧Bk wr (gF) 138 (C9 I9)∧Bk wr (cM) 177 (C9 (Pl (M5 p I9)))∧Bk wr (cM+1) 140 (C9 (Gr p n m).row)∧Below w.heap.size w wr∧w.heap.size+3≤wr.heap.size) (fun x8 _=>(intOf x8+1).toNat)
  case atStart=>exact ⟨0,by omega,by omega,rfl,cG,cH,cI,cJ,aY,aX,fJ,fK⟩
  case round=>
   clear fJ fK cG cH cI cJ aY aX;obtain⟨m,jA,hm,rfl,aG,aB,aD,aC,aE,aA,dE,cU⟩:=hrel;by_cases hltm:m<64
   ·
    obtain⟨s,hs⟩:=H8 (63-m);have es:63-(m:Int)=(s:Int):=by omega
    have iI:s<64:=by omega
    have hd:decide (0≤(s:Int))=true:=decide_eq_true (by omega);rw[es];have HM:Hid (Gr p n (m+1)=T6 (Bn 4 (Gr p n m)) (O9 (M5 p I9) (dg n s)) I9):=Lib.hid (by rw[hs];rfl);have ES:=Lib.hid es;clear hs es;have iJ:=A6b n s;go_wp2_with fail;go_loopw [24] (fun x24 wr=>∃q:Nat,0≤q∧q≤4∧x24=.int .i64 (q:Int)∧Bk wr (w.heap.size) 140 (C9 p.row)∧Bk wr (w.heap.size+1) 23 (c8 n)∧Bk wr (w.heap.size+2) 140 (C9 (I3 20))∧Bk wr (gF) 138 (C9 I9)∧Bk wr (cM) 177 (C9 (Pl (M5 p I9)))∧Bk wr (cM+1) 140 (C9 (Bn q (Gr p n m)).row)∧Below w.heap.size w wr∧w.heap.size+3≤wr.heap.size) (fun x24 _=>4-(intOf x24).toNat)
    case atStart=>exact ⟨0,by omega,by omega,rfl,aG,aB,aD,aC,aE,aA,dE,cU⟩
    case round=>
     clear dE cU aG aB aD aC aE aA;obtain⟨q,jB,hq,rfl,aG,aB,aD,aC,aE,aA,dE,cU⟩:=hrel;by_cases hltq:q<4
     ·
      have jC:decide ((q:Int)<4)=true:=decide_eq_true (by omega);have Mt:=Bk.row64 (n:=20) (aA) ((Da (Fa hp n m) q).row);go_wp2_with fail;clear Mt;refine (Nz (Bn q (Gr p n m)) (Da (Fa hp n m) q) wr).mono ?_;rintro e iK ⟨rfl,cV⟩;have hG:=J5 dE cV;have hJ:=Nat.le_trans cU cV.size;have dF:=aG.bl cV;have dG:=aB.bl cV;have dH:=aD.bl cV;have dI:=aC.bl cV;have dJ:=aE.bl cV;have cN:=aA.bl cV;clear cV dE cU aG aB aD aC aE aA;obtain⟨iL,aK⟩:=H8 (E0 iK ⟨cM+1,0,none⟩ (C9 (Ic (Bn q (Gr p n m))).row));have eB:Bk iL (cM+1) 140 (C9 (Ic (Bn q (Gr p n m))).row):=by rw[aK];exact Bk.put64 (cN) ((Da (Fa hp n m) q).row) ((Fo (Bn q (Gr p n m))).row)
      have eC:=I4 aK dF (by omega);have eD:=I4 aK dG (by omega);have eE:=I4 aK dH (by omega);have eF:=I4 aK dI (by omega);have eG:=I4 aK dJ (by omega);have gI:=Z9 aK hG (by omega);have eH:=Ck 20 cN ((Da (Fa hp n m) q).row);have aN:(Ic (Bn q (Gr p n m))).row.length=20:=(Fo (Bn q (Gr p n m))).row;go_wp2_with fail;rw[←aK];clear eH aN;have gJ:=Gd aK hJ;clear aK dF dG dH dI dJ cN hG hJ;go_roundw;case rel=>exact ⟨q+1,by omega,by omega,by go_num,eC,eD,eE,eF,eG,eB,gI,gJ⟩
      case measure=>simp[intOf];omega
     ·
      obtain rfl:q=4:=by omega
      have e4:((4:Nat):Int)=4:=rfl;rw[e4];clear e4;go_wp2_with fail;have hY:=Eo wr;refine Dm (fun W=>Bk W (w.heap.size+1) 23 (c8 n)∧Bk W (gF) 138 (C9 I9)) ?_;refine Cf (A:=?iM) [1,2,6] ⟨(aB.drew),(aC.drew)⟩ (fun W hW=>?gK) ?iN;case gK=>have f1:=Bk.row8 (n:=32) (hW.1) (hn);have f6:=Bk.row64 (n:=5) (hW.2) (Q4);exact Dd
      refine J2 [zv 0 29 (H7 (Bn 4 (Gr p n m)).row),zv 3 32 (.int .u8 ((dg n s:Nat):Int)),zv 4 33 (.pointer (some ⟨cM,(dg n s)*20,none⟩)),zv 5 34 (H7 (O9 (M5 p I9) (dg n s)).row),zv 7 36 (H7 (T6 (Bn 4 (Gr p n m)) (O9 (M5 p I9) (dg n s)) I9).row)] (by kernel_rfl) (fun W hW=>⟨(aB.drew.bl hW),(aC.drew.bl hW)⟩) ?eI ?eJ ?eK;case eI=>exact Jz
      case eJ=>
       refine (N7 ⟨?fL,(N7 ⟨?fM,(N7 ⟨?fN,(N7 ⟨?fO,(N7 ⟨?fP,Ik⟩)⟩)⟩)⟩)⟩);case fL=>
        intro o ho us W hW hp Q' hQ';obtain rfl:=Option.some.inj ho;clear hp ho;rw[C8]at hQ' ⊢;dsimp only[F8,I2,List.foldl,zv,za]at hQ' ⊢;simp only[Bu];have f0:=Bk.row64 (n:=20) (aA.drew.bl hW) ((Da (Fa hp n m) 4).row);go_wp2_with fail;exact Cm (hQ' _ _ (Below.refl _ _) rfl nofun)
       case fM=>exact Qj fun W=>Ql n hn s (by omega) W
       case fN=>intro o ho us W hW hp Q' hQ';obtain rfl:=Option.some.inj ho;have dK:us 3=(.int .u8 ((dg n s:Nat):Int)):=hp 1 _ rfl (by kernel_rfl);clear hp ho;rw[C8]at hQ' ⊢;dsimp only[F8,I2,List.foldl,zv,za]at hQ' ⊢;simp only[Bu];rw[dK]at hQ' ⊢;clear dK;go_wp2_with fail;exact Cm (hQ' _ _ (Below.refl _ _) rfl nofun)
       case fO=>intro o ho us W hW hp Q' hQ';obtain rfl:=Option.some.inj ho;have fQ:us 4=(.pointer (some ⟨cM,(dg n s)*20,none⟩)):=hp 2 _ rfl (by kernel_rfl);clear hp ho;rw[C8]at hQ' ⊢;dsimp only[F8,I2,List.foldl,zv,za]at hQ' ⊢;simp only[Bu];rw[fQ]at hQ' ⊢;clear fQ;have f5:=show I6 _ ⟨_,(dg n s)*20,none⟩ 20=some (C9 (O9 (M5 p I9) (dg n s)).row) from Bk.plAt (i:=(dg n s)) (aE.drew.bl hW) (Y7 hp I9) (by simp;try omega);go_wp2_with fail;exact Cm (hQ' _ _ (Below.refl _ _) rfl nofun)
       case fP=>intro o ho us W hW hp Q' hQ';obtain rfl:=Option.some.inj ho;have fR:us 0=(H7 (Bn 4 (Gr p n m)).row):=hp 0 _ rfl (by kernel_rfl);have dK:us 3=(.int .u8 ((dg n s:Nat):Int)):=hp 1 _ rfl (by kernel_rfl);have fS:us 5=(H7 (O9 (M5 p I9) (dg n s)).row):=hp 3 _ rfl (by kernel_rfl);clear hp ho;rw[C8]at hQ' ⊢;dsimp only[F8,I2,List.foldl,zv,za]at hQ' ⊢;simp only[Bu];rw[fR,dK,fS]at hQ' ⊢;clear fR dK fS;go_wp2_with fail;refine (Ix (Bn 4 (Gr p n m)) (O9 (M5 p I9) (dg n s)) I9 (Da (Fa hp n m) 4) ((Y7 hp I9).at (dg n s)) Q4 W).mono ?_;rintro e W2 ⟨rfl,b2⟩;go_wp2_with fail;exact Cm (hQ' _ _ b2 rfl nofun)
      case eK=>
      intro us iO iA hg dU gE;have fR:us 0=(H7 (Bn 4 (Gr p n m)).row):=hg _ (M6 0 rfl);have dK:us 3=(.int .u8 ((dg n s:Nat):Int)):=hg _ (M6 1 rfl);have fQ:us 4=(.pointer (some ⟨cM,(dg n s)*20,none⟩)):=hg _ (M6 2 rfl);have fS:us 5=(H7 (O9 (M5 p I9) (dg n s)).row):=hg _ (M6 3 rfl);have iB:us 7=(H7 (T6 (Bn 4 (Gr p n m)) (O9 (M5 p I9) (dg n s)) I9).row):=hg _ (M6 4 rfl);have cW:=J5 hY iA;refine Mu ?_;rw[fR,dK,fQ,fS,iB];clear hg dU gE fR dK fQ fS iB iA hY;have iC:=J5 dE cW;have iD:=Nat.le_trans cU cW.size;have dL:=aG.bl cW;have dM:=aB.bl cW;have dN:=aD.bl cW;have dO:=aC.bl cW;have dP:=aE.bl cW;have cO:=aA.bl cW;clear cW dE cU aG aB aD aC aE aA;obtain⟨iP,aL⟩:=H8 (E0 iO ⟨cM+1,0,none⟩ (C9 (T6 (Bn 4 (Gr p n m)) (O9 (M5 p I9) (dg n s)) I9).row));have fT:Bk iP (cM+1) 140 (C9 (T6 (Bn 4 (Gr p n m)) (O9 (M5 p I9) (dg n s)) I9).row):=by rw[aL];exact Bk.put64 (cO) ((Da (Fa hp n m) 4).row) ((Bd (Bn 4 (Gr p n m)) (O9 (M5 p I9) (dg n s)) I9).row)
      have fU:=I4 aL dL (by omega);have dQ:=I4 aL dM (by omega);have fV:=I4 aL dN (by omega);have dR:=I4 aL dO (by omega);have fW:=I4 aL dP (by omega);have iQ:=Z9 aL iC (by omega);have eL:=Ck 20 cO ((Da (Fa hp n m) 4).row);have eM:(T6 (Bn 4 (Gr p n m)) (O9 (M5 p I9) (dg n s)) I9).row.length=20:=(Bd (Bn 4 (Gr p n m)) (O9 (M5 p I9) (dg n s)) I9).row;refine U0 8 fun Q' hQ'=>?_;dsimp only[F8];go_wp2_with fail;rw[←aL];refine hQ' _ _ ⟨dQ,dR⟩ ?_;clear hQ' eL eM;have iR:=Gd aL iD;clear aL iC iD dL dM dN dO dP cO;refine Cu ?_;go_wp2_with fail;go_roundw;case rel=>exact ⟨m+1,by omega,by omega,by rw[←ES.out];all_goals (simp<;>omega),fU,dQ,fV,dR,fW,(by rw[HM.out];exact fT),iQ,iR⟩
      case measure=>have:=ES.out;simp[intOf]<;>omega
   ·
    obtain rfl:m=64:=by omega
    obtain⟨jD,aM⟩:=H8 (E0 wr ⟨w.heap.size+2,0,none⟩ (C9 (Gr p n 64).row));have eN:=Dl 20 aM aD (by simp) ((Fa hp n 64).row);have gL:=I4 aM aG (by omega);have gM:=I4 aM aB (by omega);have gN:=I4 aM aC (by omega);have gO:=I4 aM aE (by omega);have gP:=I4 aM aA (by omega);have gQ:=Z9 aM dE (by omega);have iS:=Bk.row64 (n:=20) (aA) ((Fa hp n 64).row);have eO:=Ck 20 aD (by simp);have aN:(Gr p n 64).row.length=20:=(Fa hp n 64).row;go_wp2_with fail;rw[←aM];clear iS eO aN;have iT:=Gd aM cU;clear aM cU;have eP:(Gr p n 64).row.length=20:=(Fa hp n 64).row;refine bodyPost_ret (E5 rfl _ _ _ _ _ _ rfl eN X3 rfl (by simp[Bt,eP])) rfl ⟨by rw[HZ.out];rfl,gQ⟩
 case true=>have HZ:=Lib.hid (A2x n hz);clear hz;have iU:=Bk.row8 (n:=32) (bC) (hn);go_wp2_with fail;clear iU;refine (B3d n hn W2).mono ?_;rintro e Mx ⟨rfl,eT⟩;have iE:=J5 B2 eT;have Pz:=Nat.le_trans z2 eT.size;have dS:=cS.bl eT;have dT:=bC.bl eT;have cP:=cT.bl eT;clear eT B2 z2 cS bC cT;obtain⟨jE,aZ⟩:=H8 (E0 Mx ⟨w.heap.size+2,0,none⟩ (C9 (Ng n).row));have eQ:=Dl 20 aZ cP (by simp) ((Ph n).row);have gR:=I4 aZ dS (by omega);have gS:=I4 aZ dT (by omega);have gT:=Z9 aZ iE (by omega);have eR:=Ck 20 cP (by simp);have aN:(Ng n).row.length=20:=(Ph n).row;go_wp2_with fail;rw[←aZ];clear eR aN;have iV:=Gd aZ Pz;clear aZ dS dT cP iE Pz;have eP:(Ng n).row.length=20:=(Ph n).row;refine bodyPost_ret (E5 rfl _ _ _ _ _ _ rfl eQ X3 rfl (by simp[Bt,eP])) rfl ⟨by rw[HZ.out];rfl,gT⟩
section
def Bp (c e:UInt8):List UInt8:=c::e::z8 30
attribute [simp, go_sem] Ga
@[simp, go_sem] theorem A1m (c e : UInt8) : (Bp c e).length = 32 := by simp [Bp]
theorem B0x (c e:UInt8) (w:World):(Instr.build 23 #[(0,v8 c),(1,v8 e)]).run Tryz.prog w=.ok (A8 (Bp c e)) w:=by kernel_rfl
attribute [irreducible] Bp
open Classical in
noncomputable def Jr (w:World) (raw:Result Next) (v u:Value):Result Next:=if h:∃p:UInt8×UInt8,v=v8 p.1∧u=v8 p.2 then .ok (.value (A8 (Bp h.choose.1 h.choose.2))) w else raw
theorem Oq (w:World) (raw:Result Next) (c e:UInt8):Jr w raw (v8 c) (v8 e)=.ok (.value (A8 (Bp c e))) w:=by
 have h:∃p:UInt8×UInt8,v8 c=v8 p.1∧v8 e=v8 p.2:=⟨(c,e),rfl,rfl⟩;unfold Jr;rw[dif_pos h,←A9d h.choose_spec.1,←A9d h.choose_spec.2]
@[go_sem] theorem C4l (w : World) (raw : Result Next) (c e : UInt8) : Jr w raw (.int .u8 (n8 c)) (.int .u8 (n8 e)) = .ok (.value (A8 (Bp c e))) w := Oq w raw c e
@[go_sem] theorem C3n (w : World) (raw : Result Next) (c : UInt8) : Jr w raw (.int .u8 (n8 c)) (.int .u8 77) = .ok (.value (A8 (Bp c 77))) w := Oq w raw c 77
@[go_sem] theorem C6i (w : World) (raw : Result Next) (c : UInt8) : Jr w raw (.int .u8 (n8 c)) (.int .u8 3) = .ok (.value (A8 (Bp c 3))) w := Oq w raw c 3
@[go_sem ↓ high] theorem C4m (w : World) (ρ : Operand → Value) (dst : Option Tmp) (ty : TypeId) (pos : String) (after : Array Edge) (guard : Option (Nat × Bool)) (x y : Operand) :
 (execOp ρ { dst,op:=.build 23 #[(0,x),(1,y)],type:=ty,pos,after,guard }).run Tryz.prog w=Jr w (N8 Tryz.prog ρ { dst,op:=.build 23 #[(0,x),(1,y)],type:=ty,pos,after,guard } w) (ρ x) (ρ y):=by
 unfold Jr;split
 ·rename_i h
  have h1:=h.choose_spec;generalize h.choose=c at h1;refine P5 w ρ dst ty pos after guard _ _ _ ?_;simp only[List.map_toArray,List.map_cons,List.map_nil,h1.1,h1.2];exact B0x c.1 c.2 w
 ·rfl
def Nt (p:Pn):Bool:=I1 (Km 3 p)==h1 1
theorem A6s (p:Pn) (hp:p.Ok) (w:World):Calls Tryz.prog 114 #[H7 p.row] w fun e w'=>e=.returned (.bool (Nt p))∧Below w.heap.size w w':=by
 have aM:=Ga 1;obtain⟨W0,aH⟩:=H8 ((w.alloc (Obj.cells (C9 p.row).toArray 140)));have hL:W0=M2 w [(140,(C9 p.row))]:=aH;have B0:=Jc hL;have aC:=Jy hL rfl;have z0:=Vp 1 hL rfl;clear hL;go_enter Tryz.func114,Tryz.ntmps114;go_wp2_with fail;rw[←aH];clear aH;go_loopw [3] (fun x3 wr=>∃m:Nat,0≤m∧m≤3∧x3=.int .i64 (m:Int)∧Bk wr (w.heap.size) 140 (C9 (Km m p).row)∧Below w.heap.size w wr∧w.heap.size+1≤wr.heap.size) (fun x3 _=>3-(intOf x3).toNat)
 case atStart=>exact ⟨0,by omega,by omega,rfl,aC,B0,z0⟩
 case round=>
  clear B0 z0 aC;obtain⟨m,aN,hm,rfl,aA,aG,aI⟩:=hrel;by_cases hltm:m<3
  ·
   have hd:decide ((m:Int)<3)=true:=decide_eq_true (by omega);have f1:=Bk.row64 (n:=20) (aA) ((Kc hp m).row);have f2:=Bk.row64 (n:=20) (aA) ((Kc hp m).row);go_wp2_with fail;clear f1 f2;refine (B8o (Km m p) (Km m p) (Kc hp m) (Kc hp m) wr).mono ?_;rintro e W3 ⟨rfl,b4⟩;have B3:=J5 aG b4;have z3:=Nat.le_trans aI b4.size;have aB:=aA.bl b4;clear b4 aG aI aA;obtain⟨V5,aD⟩:=H8 (E0 W3 ⟨w.heap.size,0,none⟩ (C9 (A1u (Km m p) (Km m p)).row));have aE:Bk V5 (w.heap.size) 140 (C9 (A1u (Km m p) (Km m p)).row):=by rw[aD];exact Bk.put64 (aB) ((Kc hp m).row) ((A2f (Km m p) (Km m p)).row)
   have aK:=Z9 aD B3 (by omega);have aF:=Ck 20 aB ((Kc hp m).row);have aJ:(A1u (Km m p) (Km m p)).row.length=20:=(A2f (Km m p) (Km m p)).row;go_wp2_with fail;rw[←aD];clear aF aJ;have aL:=Gd aD z3;clear aD aB B3 z3;go_roundw;case rel=>exact ⟨m+1,by omega,by omega,by go_num,aE,aK,aL⟩
   case measure=>simp[intOf];omega
  ·
   obtain rfl:m=3:=by omega
   have e3:((3:Nat):Int)=3:=rfl;rw[e3];clear e3;have f6:=Bk.row64 (n:=20) (aA) ((Kc hp 3).row);go_wp2_with fail;clear f6;refine (Lp (Km 3 p) (Kc hp 3) wr).mono ?_;rintro e W7 ⟨rfl,b8⟩;have B7:=J5 aG b8;clear b8 aG aI aA;go_wp2_with fail;go_ret;exact ⟨rfl,B7⟩
end
theorem Uu {P:Program} {t e:TypeId} {n:Nat} (hu:P.underlying t=some (.array n e)) (w:World) (g o k c:Nat) (hk:n≤k):(Instr.arrayAt t (.slice (some ⟨g,o,none⟩) k c)).run P w=.ok (.pointer (some ⟨g,o,none⟩)) w:=by
 have aA:¬ k<n:=by omega
 simp[Instr.arrayAt,run_underlying hu,aA]
@[go_sem] theorem C7j (w : World) (g o k c : Nat) (hk : 4 ≤ k) : (Instr.arrayAt 182 (.slice (some ⟨g, o, none⟩) k c)).run Tryz.prog w = .ok (.pointer (some ⟨g, o, none⟩)) w := Uu Tryz.underlying182 w g o k c hk
@[go_sem] theorem C4c (w : World) (g o k c : Nat) (hk : 32 ≤ k) : (Instr.arrayAt 23 (.slice (some ⟨g, o, none⟩) k c)).run Tryz.prog w = .ok (.pointer (some ⟨g, o, none⟩)) w := Uu Tryz.underlying23 w g o k c hk
def Vt (b:List UInt8):List UInt64:=wl b 4 32
@[simp, go_sem] theorem Cx (b : List UInt8) : (Vt b).length = 4 := by unfold Vt; simp
def Pa (b:List UInt8):Bool:=Z8 (Vt b)==Vt b
def Ca (b:List UInt8):List UInt64:=if Pa b then Vt b else I3 4
theorem Fd (b:List UInt8):(Ca b).length=4:=by unfold Ca;split<;>simp
theorem B1q {b:List UInt8} (h:Pa b=true):Ca b=Vt b:=if_pos h
theorem B4x {b:List UInt8} (h:Pa b=false):Ca b=I3 4:=if_neg (by rw[h];decide)
theorem B4l (b:List UInt8) (hb:b.length=32) (w:World):Calls Tryz.prog 115 #[A8 b] w fun e w'=>e=.returned (.tuple #[H7 (Ca b),.bool (Pa b)])∧Below w.heap.size w w':=by
 have bV:=Eu (Cx b);obtain⟨W0,bF⟩:=H8 (((w.alloc (Obj.cells (c8 b).toArray 23)).alloc (Obj.cells (C9 (I3 4)).toArray 184)));have hL:W0=M2 w [(23,(c8 b)),(184,(C9 (I3 4)))]:=bF;have B0:=Jc hL;have aN:=Jy hL rfl;have aW:=Gs 1 hL rfl;have z0:=Vp 2 hL rfl;clear hL;go_enter Tryz.func115,Tryz.ntmps115;go_wp2_with fail;rw[←bF];clear bF;refine (Zt b 32 4 w.heap.size _ hb rfl (by decide) W0 aN).mono ?_;rintro e W1 ⟨p3,rfl,aB,bR,b2⟩;clear bR;have B1:=J5 B0 b2;have z1:=Nat.le_trans z0 b2.size;have aX:=aN.bl b2;have aO:=aW.bl b2;clear b2 B0 z0 aN aW;have aB:Bk W1 (p3) 117 (C9 (Vt b)):=aB;obtain⟨V5,aU⟩:=H8 (W1.alloc (Obj.cells (C9 (I3 4)).toArray 182));have aV:W1.heap.size=W1.heap.size:=rfl;have aC:Bk V5 (W1.heap.size) 182 (C9 (I3 4)):=by rw[aU,←aV];exact Bk.new W1 _ _
 have aK:=Y3 aU aO;have bN:=Jx aU B1;have aD:=Y9 aV aX;have aE:=Y9 aV aO;have aF:=Y9 aV aB;have aY:w.heap.size+2≤W1.heap.size:=by rw[←aV];exact Nat.le_trans z1 (Nat.le_refl _)
 clear aV;obtain⟨V6,aZ⟩:=H8 (E0 V5 ⟨W1.heap.size,0,none⟩ (C9 (Vt b)));have aA:=Dl 4 aZ aC (by simp) (Cx b);have aL:=I4 aZ aK (by omega);have bO:=Z9 aZ bN (by omega);have f4:=Bk.row64 (n:=4) (aB) ((Cx b));have aM:=Ck 4 aC (by simp);rw[aU]at aM;have aG:(Vt b).length=4:=(Cx b);go_wp2_with fail;rw[←aU,←aZ];clear f4 aM aG;obtain⟨p7,bG⟩:=H8 (W1.heap.size);rw[←bG]at aA aD aE aF aY;try rw[←bG]
 clear aU aZ bG aX aO aB B1 z1 aK aC bN;have S8:=Eo V6;refine Dm (fun W=>Bk W (p7) 182 (C9 (Vt b))) ?_;refine Cf (A:=?bX) [0,2] (aA.drew) (fun W hW=>?bS) ?bY;case bS=>
  have f0:=Bk.row64 (n:=4) (hW) ((Cx b));exact Dd
 refine J2 [zv 1 10 (H7 (Z8 (Vt b))),zv 3 12 (.bool (!(Z8 (Vt b)==Vt b)))] (by kernel_rfl) (fun W hW=>(aA.drew.bl hW)) ?bA ?bB ?bC;case bA=>exact Jz
 case bB=>
  refine (N7 ⟨?bH,(N7 ⟨?bI,Ik⟩)⟩);case bH=>
   exact Qj fun W=>Om (Vt b) (Cx b) W
  case bI=>intro o ho us W hW hp Q' hQ';obtain rfl:=Option.some.inj ho;have bD:us 1=(H7 (Z8 (Vt b))):=hp 0 _ rfl (by kernel_rfl);clear hp ho;rw[C8]at hQ' ⊢;dsimp only[F8,I2,List.foldl,zv,za]at hQ' ⊢;simp only[Bu];rw[bD]at hQ' ⊢;clear bD;go_wp2_with fail;exact Cm (hQ' _ _ (Below.refl _ _) rfl nofun)
 case bC=>
 intro us W9 bP hg bJ bT;have bD:us 1=(H7 (Z8 (Vt b))):=hg _ (M6 0 rfl);have bQ:us 3=(.bool (!(Z8 (Vt b)==Vt b))):=hg _ (M6 1 rfl);have bE:=J5 S8 bP;refine Mu ?_;rw[bD,bQ];clear hg bJ bT bD bQ bP S8;have B9:=J5 bO bE;have aH:=aL.bl bE;have bK:=aA.bl bE;clear bE bO aL aA;refine Cu ?_;cases hz:(Z8 (Vt b)==Vt b);case false=>
  rw[Bool.not_false];have HE:=Lib.hid (B4x hz);have HB:Hid (Pa b=false):=Lib.hid hz;clear hz;obtain⟨bZ,aI⟩:=H8 (E0 W9 ⟨w.heap.size+1,0,none⟩ (C9 (I3 4)));have aP:=Dl 4 aI aH (by simp) (by simp);have bL:=Z9 aI B9 (by omega);have aQ:=Ck 4 aH (by simp);have aG:(I3 4).length=4:=(show (I3 4).length=4 from by simp);go_wp2_with fail;rw[←aI];clear aQ aG;clear aI;have aR:(I3 4).length=4:=(show (I3 4).length=4 from by simp);refine bodyPost_ret (v:=.tuple #[H7 (I3 4),.bool false]) ?_ rfl ⟨?_,bL⟩
  ·refine M7 rfl ?_ ?_
   ·exact L6.row aP rfl _ Eb rfl (by simp[Hh,aR])
   ·exact L6.tmp rfl
  ·rw[HE.out,HB.out]
 case true=>
  rw[Bool.not_true];have HE:=Lib.hid (B1q hz);have HB:Hid (Pa b=true):=Lib.hid hz;clear hz;obtain⟨cA,aJ⟩:=H8 (E0 W9 ⟨w.heap.size+1,0,none⟩ (C9 (Vt b)));have aS:=Dl 4 aJ aH (by simp) (Cx b);have bM:=Z9 aJ B9 (by omega);have bU:=Bk.row64 (n:=4) (bK) ((Cx b));have aT:=Ck 4 aH (by simp);have aG:(Vt b).length=4:=(Cx b);go_wp2_with fail;rw[←aJ];clear bU aT aG;clear aJ;have aR:(Vt b).length=4:=(Cx b);refine bodyPost_ret (v:=.tuple #[H7 (Vt b),.bool true]) ?_ rfl ⟨?_,bM⟩
  ·refine M7 rfl ?_ ?_
   ·exact L6.row aS rfl _ Eb rfl (by simp[Hh,aR])
   ·exact L6.tmp rfl
  ·rw[HE.out,HB.out]
def mT (x y t c:UInt64):UInt64:=Tk (Tk (x*y) t 0) c 0
def mC (x y t c:UInt64):UInt64:=A2u x y+Vk (x*y) t 0+Vk (Tk (x*y) t 0) c 0
def mIn (x:UInt64) (b:List UInt64) (i:Nat) (t:List UInt64):Nat→List UInt64×UInt64
 | 0=>(t,0)
 | j+1=>((mIn x b i t j).1.set (i+j) (mT x (E9 b j) (E9 (mIn x b i t j).1 (i+j)) (mIn x b i t j).2),mC x (E9 b j) (E9 (mIn x b i t j).1 (i+j)) (mIn x b i t j).2)
theorem Mc (x:UInt64) (b:List UInt64) (i:Nat) (t:List UInt64):∀j,(mIn x b i t j).1.length=t.length
 | 0=>rfl
 | j+1=>by show (List.set _ _ _).length=_;rw[List.length_set];exact Mc x b i t j
def A2c (a b:List UInt64):Nat→List UInt64
 | 0=>I3 8
 | i+1=>(mIn (E9 a i) b i (A2c a b i) 4).1.set (i+4) (mIn (E9 a i) b i (A2c a b i) 4).2
theorem Nk (a b:List UInt64):∀i,(A2c a b i).length=8
 | 0=>by show (I3 8).length=8;simp
 | i+1=>by show (List.set _ _ _).length=_;rw[List.length_set,Mc];exact Nk a b i
def Ee (a b:List UInt64):List UInt64:=Oy (A2c a b 4)
theorem A3j (a b:List UInt64):(Ee a b).length=4:=Gm _
theorem B3y (a b:List UInt64) (ha:a.length=4) (hb:b.length=4) (w:World):Calls Tryz.prog 109 #[H7 a,H7 b] w fun e w'=>e=.returned (H7 (Ee a b))∧Below w.heap.size w w':=by
 obtain⟨W0,aA⟩:=H8 ((((w.alloc (Obj.cells (C9 a).toArray 184)).alloc (Obj.cells (C9 b).toArray 184)).alloc (Obj.cells (C9 (I3 4)).toArray 184)).alloc (Obj.cells (C9 (I3 8)).toArray 155));have hL:W0=M2 w [(184,C9 a),(184,C9 b),(184,C9 (I3 4)),(155,C9 (I3 8))]:=aA;have B0:=Jc hL;have K0:=Jy hL rfl;have L0:=Gs 1 hL rfl;have R0:=Gs 2 hL rfl;have D0:=Gs 3 hL rfl;have ra:=K0.row64 ha;rw[aA]at ra;clear hL;go_enter Tryz.func109,Tryz.ntmps109;go_wp2_with fail;rw[←aA];clear aA ra K0;go_loopw [16] (fun x wr=>∃i:Nat,i≤4∧x=.int .i64 (i:Int)∧Bk wr (w.heap.size+1) 184 (C9 b)∧Bk wr (w.heap.size+2) 184 (C9 (I3 4))∧Bk wr (w.heap.size+3) 155 (C9 (A2c a b i))∧Below w.heap.size w wr) (fun x _=>4-(intOf x).toNat)
 case atStart=>exact ⟨0,by omega,rfl,L0,R0,D0,B0⟩
 case round=>
  clear L0 R0 D0 B0;obtain⟨i,hi,rfl,L,R,D,B⟩:=hrel;by_cases hlt:i<4
  ·obtain⟨x,hx⟩:=H8 (E9 a i);obtain⟨t,ht⟩:=H8 (A2c a b i);have aD:t.length=8:=by rw[ht];exact Nk a b i
   have HN:Hid (A2c a b (i+1)=(mIn x b i t 4).1.set (i+4) (mIn x b i t 4).2):=Lib.hid (by rw[ht,hx];rfl);have aI:decide ((i:Int)<4)=true:=decide_eq_true (by omega);rw[←ht]at D;clear ht;have aE:=Lib.hid aD;clear aD;have D0:Bk wr (w.heap.size+3) 155 (C9 (mIn x b i t 0).1):=D;have rb:=L.row64 hb;have aF:E9 a i=x:=hx.symm;clear hx D;go_wp2_with fail;clear rb aF;go_loopw [22,8] (fun y c wr=>∃j:Nat,j≤4∧y=.int .i64 (j:Int)∧c=.int .u64 (J0 (mIn x b i t j).2)∧Bk wr (w.heap.size+1) 184 (C9 b)∧Bk wr (w.heap.size+2) 184 (C9 (I3 4))∧Bk wr (w.heap.size+3) 155 (C9 (mIn x b i t j).1)∧Below w.heap.size w wr) (fun y _ _=>4-(intOf y).toNat)
   case atStart=>exact ⟨0,by omega,rfl,rfl,L,R,D0,B⟩
   case round=>
    clear L R D0 B;obtain⟨j,hj,rfl,rfl,L,R,D,B⟩:=hrel;by_cases hlj:j<4
    ·obtain⟨u,hu⟩:=H8 ((mIn x b i t j).1);obtain⟨c,hc⟩:=H8 ((mIn x b i t j).2);obtain⟨q,hq⟩:=H8 (i+j);obtain⟨y,hy⟩:=H8 (E9 b j);obtain⟨v,hv⟩:=H8 (E9 u q);have aC:u.length=8:=by rw[hu,Mc];exact aE.out
     have HI:Hid (mIn x b i t (j+1)=(u.set q (mT x y v c),mC x y v c)):=Lib.hid (by rw[hv,hy,hu,hc,hq];rfl);rw[←hu]at D;rw[←hc];have aJ:(i:Int)+(j:Int)=(q:Int):=by omega
     have aK:q<8:=by omega
     have aL:decide ((j:Int)<4)=true:=decide_eq_true (by omega);have d0:=D.at_ (J1 (l:=u) (i:=q) (by omega));rw[←hv]at d0;have aM:E9 b j=y:=hy.symm;have f0:=D.frozen q;have D3:=D.set_ q (.int .u64 (J0 (mT x y v c)));rw[Am]at D3;clear hu hc hq hy hv aC;go_wp2_with fail;refine (Tj x y wr).mono ?_;rintro e w2 ⟨rfl,rfl⟩;go_wp2_with fail;go_roundw;case rel=>exact ⟨j+1,by omega,by go_num,by rw[HI.out];rfl,L.far (by show w.heap.size+1≠w.heap.size+3;omega) _,R.far (by show w.heap.size+2≠w.heap.size+3;omega) _,by rw[HI.out];exact D3,B.setCell (by show w.heap.size≤w.heap.size+3;omega) _⟩
     case measure=>simp[intOf];omega
    ·obtain rfl:j=4:=by omega
     have e4:((4:Nat):Int)=4:=rfl;rw[e4];clear e4;obtain⟨u,hu⟩:=H8 ((mIn x b i t 4).1);obtain⟨c,hc⟩:=H8 ((mIn x b i t 4).2);have aC:u.length=8:=by rw[hu,Mc];exact aE.out
     have HI:Hid (A2c a b (i+1)=u.set (i+4) c):=Lib.hid (by rw[HN.out,hu,hc]);rw[←hu]at D;rw[←hc];have aN:((i:Int)+4).toNat=i+4:=by omega
     have d0:=D.at_ (J1 (l:=u) (i:=i+4) (by omega));have f0:=D.frozen (i+4);have D3:=D.set_ (i+4) (.int .u64 (J0 c));rw[Am]at D3;clear hu hc aC;go_wp2_with fail;go_roundw;case rel=>exact ⟨i+1,by omega,by go_num,L.far (by show w.heap.size+1≠w.heap.size+3;omega) _,R.far (by show w.heap.size+2≠w.heap.size+3;omega) _,by rw[HI.out];exact D3,B.setCell (by show w.heap.size≤w.heap.size+3;omega) _⟩
     case measure=>simp[intOf];omega
  ·obtain rfl:i=4:=by omega
   have e4:((4:Nat):Int)=4:=rfl;rw[e4];clear e4;obtain⟨ws,aB⟩:=H8 (A2c a b 4);have aG:ws.length=8:=by rw[aB];exact Nk a b 4
   have HS:Hid (Ee a b=Oy ws):=Lib.hid (by rw[aB];rfl);rw[←aB]at D;clear aB;go_wp2_with fail;refine (A0d ws 8 (w.heap.size+3) _ aG (by decide) wr D).mono ?_;rintro e w2 ⟨rfl,b2⟩;have R2:=R.bl b2;have B2:=J5 B b2;have hl:=Gm ws;have aH:=Fu 4 R2 (by simp);go_wp2_with fail;refine bodyPost_ret (E5 rfl _ _ _ _ _ _ rfl (R2.puts (vs:=C9 (Oy ws)) (by simp[hl])) Eb rfl (by simp[Hh,hl])) rfl ⟨by rw[HS.out];rfl,C5 B2 (by show w.heap.size≤w.heap.size+2;omega) _⟩
theorem C6y:(Tryz.prog.info? 45).map (fun i=>(i.zero,i.size,i.bytes))=some (some (.slice none 0 0),1,24):=by kernel_rfl
theorem M9.one_cells {w:World} {B:Nat} {vs:List Value} {ls:List (List UInt8)} (h2:vs.length=ls.length) (h3:∀(i:Nat) (x:Value) (l:List UInt8),vs[i]?=some x→ls[i]?=some l→By w 0 B x l):∀u∈vs,u.oneCell'=true:=by
 intro u hu;obtain⟨i,hi⟩:=List.getElem?_of_mem hu;have aA:=(List.getElem?_eq_some_iff.1 hi).1;obtain⟨A,c,rfl,_⟩:=(h3 i u _ hi (List.getElem?_eq_getElem (by omega))).open_;rfl
theorem M9.join {w w':World} {v:Value} {vs vs':List Value} {ls ls':List (List UInt8)} (hv:vs.length=ls.length) (hv':vs'.length=ls'.length) (hs:Sl w' 0 w'.heap.size v (vs++vs')) (hb:Below w.heap.size w w')
 (h3:∀(i:Nat) (x:Value) (l:List UInt8),vs[i]?=some x→ls[i]?=some l→By w 0 w.heap.size x l) (h3':∀(i:Nat) (x:Value) (l:List UInt8),vs'[i]?=some x→ls'[i]?=some l→By w 0 w.heap.size x l):M9 w' w'.heap.size v (ls++ls'):=by
 refine ⟨vs++vs',hs,by simp[hv,hv'],fun i x l hx hl=>?_⟩;by_cases hi:i<vs.length
 ·rw[List.getElem?_append_left hi]at hx;rw[List.getElem?_append_left (by omega)]at hl;exact ((h3 i x l hx hl).below hb).more hb.size
 ·rw[List.getElem?_append_right (by omega)]at hx;rw[List.getElem?_append_right (by omega),←hv]at hl;exact ((h3' _ x l hx hl).below hb).more hb.size
theorem Ye (g o n:Nat) (vp:Value) (ls ps:List (List UInt8)) (w:World) (ha:M9 w w.heap.size (.slice (some ⟨g,o,none⟩) n n) ls) (hp:M9 w w.heap.size vp ps) (h0:0<ps.length) (hsz:ls.length+ps.length≤1000000) :
 Calls Tryz.prog 106 #[vp,.slice (some ⟨g,o,none⟩) n n] w fun e w'=>∃v,e=.returned v∧M9 w' w'.heap.size v (ls++ps)∧Below w.heap.size w w':=by
 obtain⟨vs,⟨A,c,e1,h1,h2,aL⟩,aM,aN⟩:=ha;obtain⟨aA,⟨A',c',rfl,bA,bB,aF⟩,aC,aD⟩:=hp;injection e1 with e1 e2 e3;subst e1 e2 e3;obtain⟨i0,aO,aP,aQ,aR⟩:=info_parts C6y;have hn:aA.length≠0:=by omega
 have aG:∀j u,vs[j]?=some u→w.cell? ⟨g,o+j,none⟩=some u:=by
  rcases aL with h | ⟨g',o',e,_,_,hc⟩
  ·intro j u hj;rw[h]at hj;cases hj
  ·injection e with e;injection e with e1 e2;subst e1 e2;exact hc
 rcases aF with h | ⟨g',o',rfl,_,_,hc'⟩
 ·rw[h]at hn;exact absurd rfl hn
 have aB:=M9.one_cells aC aD;have bC:Hid _:=Lib.hid aG;have aS:Hid _:=Lib.hid hc';have aT:Hid _:=Lib.hid aN;have aH:Hid _:=Lib.hid aD;have aI:Hid _:=Lib.hid aB;have aU:=Lib.hid aO;have aV:=Lib.hid aP;have aW:=Lib.hid aQ;have aX:=Lib.hid aR;have aY:=Lib.hid aM;have aJ:=Lib.hid aC;have K1:Hid (some (⟨g,o,none⟩:Addr)=none→vs.length=0∧vs.length=0):=Lib.hid (fun h=>by cases h);have K2:Hid (vs.length=vs.length*1):=Lib.hid (by omega);have K3:Hid (∀b:Addr,some (⟨g,o,none⟩:Addr)=some b→∀j u,vs[j]?=some u→w.cell? (b.add j)=some u):=Lib.hid (fun b hb j u hj=>by injection hb with hb;subst hb;rw[Bq];exact aG j u hj);have K4:Hid (aA.length=aA.length*1):=Lib.hid (by omega);have K5:Hid (∀j u,aA[j]?=some u→w.cell? ((⟨g',o',none⟩:Addr).add j)=some u):=Lib.hid (fun j u hj=>by rw[Bq];exact hc' j u hj);have K6:Hid (vs.length<vs.length+aA.length):=Lib.hid (by omega);have K7:Hid (vs.length+aA.length≤maxLen):=Lib.hid (by simp only[maxLen];omega);have K8:Hid ((vs.length+aA.length)*24≤140737488355328):=Lib.hid (by omega);clear aG hc' aN aD aB aO aP aQ aR aM aC aL;go_enter Tryz.func106,Tryz.ntmps106;go_wp2_with (at_builtin;refine wpList_append_grows _ rfl _ _ 152 rfl 45 i0 _ 1 24 Tryz.underlying152 aU.out aV.out aW.out aX.out rfl (by decide) (some ⟨g,o,none⟩) vs.length vs.length vs rfl K1.out K2.out K3.out ⟨g',o',none⟩ aA.length c' aA rfl K4.out K5.out aI.out K6.out K7.out K8.out ?_;intro v' w' aK aZ)
 have aE:Below w.heap.size w w':=(Below.refl w.heap.size w).grown aZ (Nat.le_refl _) (fun k hk=>by cases hk);go_ret;exact ⟨v',rfl,M9.join aY.out aJ.out (Sl.less (Sl.of_own aK) (Nat.zero_le _)) aE aT.out aH.out,aE⟩
theorem M9.up {w w':World} {v:Value} {ls:List (List UInt8)} (h:M9 w w.heap.size v ls) (hb:Below w.heap.size w w'):M9 w' w'.heap.size v ls:=(h.below hb).more hb.size
theorem By.up {w w':World} {v:Value} {l:List UInt8} (h:By w 0 w.heap.size v l) (hb:Below w.heap.size w w'):By w' 0 w'.heap.size v l:=(h.below hb).more hb.size
theorem Bk.by {w:World} {g:Nat} {t:TypeId} {l m:List UInt8} (K:Bk w g t (c8 l)) (o n c:Nat) (hn:o+n≤l.length) (hc:n≤c) (hc2:c≤9223372036854775807) (hm:(l.drop o).take n=m):By w 0 w.heap.size (.slice (some ⟨g,o,none⟩) n c) m:=by
 have aA:m.length=n:=by rw[←hm];simp;omega
 have:=By.mk_ (w:=w) (lo:=0) (B:=w.heap.size) (A:=some ⟨g,o,none⟩) (c:=c) (l:=m) (by omega) (by unfold maxLen;exact hc2) (.inr ⟨g,o,rfl,Nat.zero_le _,K.lt,fun j u hj=>K.at_ (by
  have h1:j<m.length:=by have:=(List.getElem?_eq_some_iff.1 hj).1;simpa using this
  rw[←hj,←hm];simp only[c8,List.map_take,List.map_drop,List.getElem?_take,List.getElem?_drop];rw[if_pos (by omega)])⟩)
 rwa [aA]at this
theorem Bk.byAll {w:World} {g:Nat} {t:TypeId} {l:List UInt8} {n:Nat} (K:Bk w g t (c8 l)) (hl:l.length=n) (hn:n≤9223372036854775807):By w 0 w.heap.size (.slice (some ⟨g,0,none⟩) n n) l:=
 K.by 0 n n (by omega) (Nat.le_refl _) hn (by rw[List.drop_zero,List.take_of_length_le (by omega)])
def zs (i:Nat) (d:Tmp) (n:Nat) (ls:List (List UInt8)):Soup:=⟨i,d,fun v w=>∃g,v=.slice (some ⟨g,0,none⟩) n n∧M9 w w.heap.size v ls,false⟩
def zp (i:Nat) (d:Tmp) (ls:List (List UInt8)):Soup:=⟨i,d,fun v w=>M9 w w.heap.size v ls,false⟩
def zb (i:Nat) (d:Tmp) (l:List UInt8):Soup:=⟨i,d,fun v w=>By w 0 w.heap.size v l,false⟩
theorem zs_mono (i:Nat) (d:Tmp) (n:Nat) (ls:List (List UInt8)):(zs i d n ls).mono:=fun _ _ _ ⟨g,e,h⟩ hb=>⟨g,e,h.up hb⟩
theorem zp_mono (i:Nat) (d:Tmp) (ls:List (List UInt8)):(zp i d ls).mono:=fun _ _ _ h hb=>h.up hb
theorem zb_mono (i:Nat) (d:Tmp) (l:List UInt8):(zb i d l).mono:=fun _ _ _ h hb=>h.up hb
def Vn (l:List UInt8):List UInt64:=Qf (Ui l)
theorem Xh (l:List UInt8):(Vn l).length=4:=Ey _
theorem A7x (vp:Value) (ls:List (List UInt8)) (w:World) (hp:M9 w w.heap.size vp ls) (hsz:ls.flatten.length≤1099511627776):Calls Tryz.prog 105 #[vp] w fun e w'=>e=.returned (H7 (Vn ls.flatten))∧Below w.heap.size w w':=by
 obtain⟨W0,aA⟩:=H8 (w.alloc (Obj.cells (C9 (I3 4)).toArray 184));have B0:=BA' aA;have R0:=KN' aA;have P0:=Lib.hid (hp.up B0);clear hp;go_enter Tryz.func105,Tryz.ntmps105;go_wp2_with fail;rw[←aA];clear aA;refine (Yt vp ls W0 P0.out hsz).mono ?_;rintro e w1 ⟨rfl,b1⟩;have R1:=R0.bl b1;have B1:=J5 B0 b1;obtain⟨h,hh⟩:=H8 (Ui ls.flatten);have hl:h.length=64:=by rw[hh];exact Ro _
 have HN:Hid (Vn ls.flatten=Qf h):=Lib.hid (by rw[hh];rfl);rw[←hh];clear hh;go_wp2_with fail;refine (A0i h hl w1).mono ?_;rintro e w2 ⟨rfl,b2⟩;have R2:=R1.bl b2;have B2:=J5 B1 b2;have aB:=Ey h;have aC:=Fu 4 R2 (by simp);go_wp2_with fail;refine bodyPost_ret (E5 rfl _ _ _ _ _ _ rfl (R2.puts (vs:=C9 (Qf h)) (by simp[aB])) Eb rfl (by simp[Hh,aB])) rfl ⟨by rw[HN.out];rfl,C5 B2 (Nat.le_refl _) _⟩
theorem RG' {P Q : Prop} (q : Q) (h : Q → P := by
  intro q
  rw [C8]
  dsimp only [I2, List.foldl, zv, za, zs, zp, zb]
  simp only [List.set_cons_succ, List.set_cons_zero]
  exact q) : P := h q
theorem KG' {Q : World → Prop} {P : Prop} (c : ∀ W, Q W) (h : (∀ W, Q W) → P := by
  intro c o ho us W hW hp Q' hQ'
  obtain rfl := Option.some.inj ho
  clear hp ho
  rw [C8] at hQ' ⊢
  dsimp only [F8, I2, List.foldl, zv, za, zs, zp, zb] at hQ' ⊢
  simp only [List.set_cons_succ, List.set_cons_zero]
  go_wp2_with fail
  refine (c W).mono ?_
  rintro e W2 ⟨rfl, b2⟩
  go_wp2_with fail
  exact Hi (hQ' _ _ b2 rfl (fun h => by cases h)) (by kernel_rfl)) : P := h c
end Go.Proofs.YtlegpkdighoflaaGreat
