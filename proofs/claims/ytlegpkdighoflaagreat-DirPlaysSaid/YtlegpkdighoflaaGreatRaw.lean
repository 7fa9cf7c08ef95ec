/- A part of the proof of DirPlays. -/
import Derived.ArgAppend
import Derived.Test.YtlegpkdighoflaaGreatRav
set_option linter.unusedVariables false
set_option linter.unusedSimpArgs false
set_option maxRecDepth 100000
set_option maxHeartbeats 40000000
namespace Go.Proofs.YtlegpkdighoflaaGreat
open Go Go.RowKit Sh
noncomputable def Ko (p:Pn) (n:List UInt8):Nat→Pn
 | 0=>U5 (Q7 p M7) 0
 | m+1=>Ai (Ek 4 (Ko p n m)) (U5 (Q7 p M7) (dg n (63-m))) M7
theorem Ja {p:Pn} (hp:p.Ok) (n:List UInt8):∀m,(Ko p n m).Ok
 | 0=>(Ch hp M7).at 0
 | m+1=>Dw _ _ _
noncomputable def N6 (p:Pn) (n:List UInt8):Pn:=if p.row==F8.row then Tn n else Ko p n 64
theorem A7z {p:Pn} (hp:p.Ok) (n:List UInt8):(N6 p n).Ok:=by
 unfold N6;split
 ·exact Tz n
 ·exact Ja hp n 64
theorem B3a {p:Pn} (n:List UInt8) (h:(p.row==F8.row)=true):N6 p n=Tn n:=if_pos h
theorem D0v {p:Pn} (n:List UInt8) (h:(p.row==F8.row)=false):N6 p n=Ko p n 64:=if_neg (by rw[h];decide)
theorem A1z (p:Pn) (n:List UInt8) (hp:p.Ok) (hn:n.length=32) (w:World):Calls Tryz.prog 66 #[J3 p.row,A8 n] w fun e w'=>e=.returned (J3 (N6 p n).row)∧Below w.heap.size w w':=by
 have jI:=hp.row;have jJ:=Dy.row;obtain⟨W0,gH⟩:=H8 ((((w.alloc (Obj.cells (C9 p.row).toArray 140)).alloc (Obj.cells (c8 n).toArray 23)).alloc (Obj.cells (C9 (K9 20)).toArray 140)));have hL:W0=O9 w [(140,(C9 p.row)),(23,(c8 n)),(140,(C9 (K9 20)))]:=gH;have B0:=Li hL;have cR:=Me hL rfl;have fD:=Jh 1 hL rfl;have fE:=Jh 2 hL rfl;have z0:=ZL' 3 hL rfl;have iR:=SL' 3 hL rfl;clear hL;go_enter Tryz.func66,Tryz.ntmps66;go_wp2_with fail;rw[←gH];clear gH iR;have S1:=Gr W0;refine Gd (fun W=>Bk W (w.heap.size) 140 (C9 p.row)) ?_;refine Ec (A:=?jK) [0] (cR.drew) (fun W hW=>?iS) ?jL;case iS=>have f0:=Bk.row64 (n:=20) (hW) (hp.row);exact Fo
 refine M8 [zv 1 10 (J3 F8.row),zv 2 11 (.bool (p.row==F8.row))] (by kernel_rfl) (fun W hW=>(cR.drew.bl hW)) ?fF ?fG ?fH;case fF=>exact Ng
 case fG=>
  refine (T7 ⟨?gI,(T7 ⟨?gJ,Mh⟩)⟩);case gI=>
   exact Vz fun W=>Sd W
  case gJ=>intro o ho us W hW hp Q' hQ';obtain rfl:=Option.some.inj ho;have fI:us 1=(J3 F8.row):=hp 0 _ rfl (by kernel_rfl);clear hp ho;rw[C7]at hQ' ⊢;dsimp only[F0,J6,List.foldl,zv,za]at hQ' ⊢;simp only[Dk];rw[fI]at hQ' ⊢;clear fI;go_wp2_with fail;exact Ih (hQ' _ _ (Below.refl _ _) rfl (fun h=>by cases h)) (by kernel_rfl)
 case fH=>
 intro us W2 b3 hg eA gK;have fI:us 1=(J3 F8.row):=hg _ (Q6 0 rfl);have iB:us 2=(.bool (p.row==F8.row)):=hg _ (Q6 1 rfl);have b4:=M9 S1 b3;refine Ro ?_;rw[fI,iB];clear hg eA gK fI iB b3 S1;have B2:=M9 B0 b4;have z2:=Nat.le_trans z0 b4.size;have cS:=cR.bl b4;have bC:=fD.bl b4;have cT:=fE.bl b4;clear b4 B0 z0 cR fD fE;refine Fq ?_;cases hz:(p.row==F8.row);case false=>
  have HZ:=Lib.hid (D0v n hz);clear hz;go_wp2_with fail;refine (Xs W2).mono ?_;rintro e W5 ⟨rfl,b6⟩;have B5:=M9 B2 b6;have z5:=Nat.le_trans z2 b6.size;have eB:=cS.bl b6;have eC:=bC.bl b6;have eD:=cT.bl b6;clear b6 B2 z2 cS bC cT;obtain⟨V7,bD⟩:=H8 (W5.alloc (Obj.cells (C9 (K9 5)).toArray 138));have fB:W5.heap.size=W5.heap.size:=rfl;have bE:Bk V7 (W5.heap.size) 138 (C9 (K9 5)):=by rw[bD,←fB];exact Bk.new W5 _ _
  have cX:=Bu bD eB;have cY:=Bu bD eC;have cZ:=Bu bD eD;have iC:=Mx bD B5;have bF:=Ce fB eB;have bG:=Ce fB eC;have bH:=Ce fB eD;have fJ:w.heap.size+3≤W5.heap.size:=by rw[←fB];exact Nat.le_trans z5 (Nat.le_refl _)
  clear fB;obtain⟨V8,cQ⟩:=H8 (E0 V7 ⟨W5.heap.size,0,none⟩ (C9 M7));have bA:=Gp 5 cQ bE (by simp) Z2;have bI:=M6 cQ cX (by omega);have dC:=M6 cQ cY (by omega);have dD:=M6 cQ cZ (by omega);have iD:=Cs cQ iC (by omega);have dF:=Fs 5 bE (by simp);rw[bD]at dF;have f9:=Bk.row64 (n:=20) (bI) (hp.row);rw[cQ,bD]at f9;have f10:=Bk.row64 (n:=5) (bA) (Z2);rw[cQ,bD]at f10;have aN:M7.length=5:=Z2;go_wp2_with fail;rw[←bD,←cQ];clear dF f9 f10 aN;obtain⟨gL,eE⟩:=H8 (W5.heap.size);rw[←eE]at bA bF bG bH fJ;try rw[←eE]
  have iE:w.heap.size+3≤V8.heap.size:=by have hz:=z5;rw[cQ,bD];first | (simp;omega) | (simp[World.setCell];omega)
  clear bD cQ eE eB eC eD B5 z5 cX cY cZ bE iC;refine (A4k p M7 hp Z2 V8).mono ?_;rintro e bB ⟨rfl,eF⟩;have iF:=M9 iD eF;have gG:=Nat.le_trans iE eF.size;have bJ:=bI.bl eF;have bK:=dC.bl eF;have bL:=dD.bl eF;have bM:=bA.bl eF;clear eF iD iE bI dC dD bA;obtain⟨iG,aF⟩:=H8 (bB.alloc (Obj.cells (C9 (K9 320)).toArray 177));have aQ:bB.heap.size=bB.heap.size:=rfl;have aR:Bk iG (bB.heap.size) 177 (C9 (K9 320)):=by rw[aF,←aQ];exact Bk.new bB _ _
  have bN:=Bu aF bJ;have bO:=Bu aF bK;have bP:=Bu aF bL;have bQ:=Bu aF bM;have fK:=Mx aF iF;have bR:=Ce aQ bJ;have bS:=Ce aQ bK;have bT:=Ce aQ bL;have bU:=Ce aQ bM;have fL:w.heap.size+3≤bB.heap.size:=by rw[←aQ];exact Nat.le_trans gG (Nat.le_refl _)
  clear aQ;obtain⟨gM,aH⟩:=H8 (E0 iG ⟨bB.heap.size,0,none⟩ (C9 (Pl (Q7 p M7))));have aO:=Gp 320 aH aR (by simp) (by rw[Z9 (Ch hp M7)];simp);have aS:=M6 aH bN (by omega);have aT:=M6 aH bO (by omega);have aU:=M6 aH bP (by omega);have aV:=M6 aH bQ (by omega);have fM:=Cs aH fK (by omega);obtain⟨iH,aI⟩:=H8 (gM.alloc (Obj.cells (C9 (K9 20)).toArray 140));have aP:gM.heap.size=bB.heap.size+1:=by rw[aH,aF];simp
  have aW:Bk iH (bB.heap.size+1) 140 (C9 (K9 20)):=by rw[aI,←aP];exact Bk.new gM _ _
  have bV:=Bu aI aS;have bX:=Bu aI aT;have bY:=Bu aI aU;have bZ:=Bu aI aV;have cA:=Bu aI aO;have fN:=Mx aI fM;have cB:=Ce aP aS;have cC:=Ce aP aT;have cD:=Ce aP aU;have cE:=Ce aP aV;have cF:=Ce aP aO;have fO:w.heap.size+3≤bB.heap.size+1:=by rw[←aP];exact Nat.le_trans gG (by rw[aP];omega)
  clear aP;obtain⟨iT,aJ⟩:=H8 (E0 iH ⟨bB.heap.size+1,0,none⟩ (C9 (U5 (Q7 p M7) 0).row));have aX:=Gp 20 aJ aW (by simp) (((Ch hp M7).at 0).row);have cG:=M6 aJ bV (by omega);have cH:=M6 aJ bX (by omega);have cI:=M6 aJ bY (by omega);have cJ:=M6 aJ bZ (by omega);have aY:=M6 aJ cA (by omega);have fP:=Cs aJ fN (by omega);have cK:=Fs 320 aR (by simp);rw[aF]at cK;have iI:=show J0 _ ⟨_,0,none⟩ 20=some (C9 (U5 (Q7 p M7) 0).row) from Bk.plAt (i:=0) (aO) (Ch hp M7) (by simp;try omega);rw[aH,aF]at iI;have cL:=Fs 20 aW (by simp);rw[aI,aH,aF]at cL;have aN:(Pl (Q7 p M7)).length=320:=(show (Pl (Q7 p M7)).length=320 from by rw[Z9 (Ch hp M7)];simp);have gN:(U5 (Q7 p M7) 0).row.length=20:=((Ch hp M7).at 0).row;go_wp2_with fail;rw[←aF,←aH,←aI,←aJ];clear cK iI cL aN gN;obtain⟨cM,eG⟩:=H8 (bB.heap.size);rw[←eG]at aY aX bR bS bT bU fL cB cC cD cE cF fO;try rw[←eG]
  have fQ:w.heap.size+3≤iT.heap.size:=by have hz:=gG;rw[aJ,aI,aH,aF];first | (simp;omega) | (simp[World.setCell];omega)
  clear aF aH aI aJ eG bJ bK bL bM iF gG bN bO bP bQ aR fK aS aT aU aV aO fM bV bX bY bZ cA aW fN;go_loopw [8] (fun x8 wr=>∃m:Nat,0≤m∧m≤64∧x8=.int .i64 (63-(m:Int))∧Bk wr (w.heap.size) 140 (C9 p.row)∧Bk wr (w.heap.size+1) 23 (c8 n)∧Bk wr (w.heap.size+2) 140 (C9 (K9 20))∧Bk wr (gL) 138 (C9 M7)∧Bk wr (cM) 177 (C9 (Pl (Q7 p M7)))∧Bk wr (cM+1) 140 (C9 (Ko p n m).row)∧Below w.heap.size w wr∧w.heap.size+3≤wr.heap.size) (fun x8 _=>(intOf x8+1).toNat)
  case atStart=>exact ⟨0,by omega,by omega,rfl,cG,cH,cI,cJ,aY,aX,fP,fQ⟩
  case round=>
   clear fP fQ cG cH cI cJ aY aX;obtain⟨m,jM,hm,rfl,aG,aB,aD,aC,aE,aA,dG,cU⟩:=hrel;by_cases hltm:m<64
   ·
    obtain⟨s,hs⟩:=H8 (63-m);have es:63-(m:Int)=(s:Int):=by omega
    have iU:s<64:=by omega
    have hd:decide (0≤(s:Int))=true:=decide_eq_true (by omega);rw[es];have HM:Hid (Ko p n (m+1)=Ai (Ek 4 (Ko p n m)) (U5 (Q7 p M7) (dg n s)) M7):=Lib.hid (by rw[hs];rfl);have ES:=Lib.hid es;clear hs es;have iV:=B2i n s;go_wp2_with fail;go_loopw [24] (fun x24 wr=>∃q:Nat,0≤q∧q≤4∧x24=.int .i64 (q:Int)∧Bk wr (w.heap.size) 140 (C9 p.row)∧Bk wr (w.heap.size+1) 23 (c8 n)∧Bk wr (w.heap.size+2) 140 (C9 (K9 20))∧Bk wr (gL) 138 (C9 M7)∧Bk wr (cM) 177 (C9 (Pl (Q7 p M7)))∧Bk wr (cM+1) 140 (C9 (Ek q (Ko p n m)).row)∧Below w.heap.size w wr∧w.heap.size+3≤wr.heap.size) (fun x24 _=>4-(intOf x24).toNat)
    case atStart=>exact ⟨0,by omega,by omega,rfl,aG,aB,aD,aC,aE,aA,dG,cU⟩
    case round=>
     clear dG cU aG aB aD aC aE aA;obtain⟨q,jN,hq,rfl,aG,aB,aD,aC,aE,aA,dG,cU⟩:=hrel;by_cases hltq:q<4
     ·
      have jO:decide ((q:Int)<4)=true:=decide_eq_true (by omega);have Rn:=Bk.row64 (n:=20) (aA) ((Gg (Ja hp n m) q).row);go_wp2_with fail;clear Rn;refine (Sa (Ek q (Ko p n m)) (Gg (Ja hp n m) q) wr).mono ?_;rintro e iW ⟨rfl,cV⟩;have iJ:=M9 dG cV;have iK:=Nat.le_trans cU cV.size;have dI:=aG.bl cV;have dJ:=aB.bl cV;have dK:=aD.bl cV;have dL:=aC.bl cV;have dM:=aE.bl cV;have cN:=aA.bl cV;clear cV dG cU aG aB aD aC aE aA;obtain⟨iX,aK⟩:=H8 (E0 iW ⟨cM+1,0,none⟩ (C9 (Mg (Ek q (Ko p n m))).row));have eH:Bk iX (cM+1) 140 (C9 (Mg (Ek q (Ko p n m))).row):=by rw[aK];exact Bk.put64 (cN) ((Gg (Ja hp n m) q).row) ((Jl (Ek q (Ko p n m))).row)
      have eI:=M6 aK dI (by omega);have eJ:=M6 aK dJ (by omega);have eK:=M6 aK dK (by omega);have eL:=M6 aK dL (by omega);have eM:=M6 aK dM (by omega);have gO:=Cs aK iJ (by omega);have eN:=Fs 20 cN ((Gg (Ja hp n m) q).row);have aN:(Mg (Ek q (Ko p n m))).row.length=20:=(Jl (Ek q (Ko p n m))).row;go_wp2_with fail;rw[←aK];clear eN aN;have gP:=Jw aK iK;clear aK dI dJ dK dL dM cN iJ iK;go_roundw;case rel=>exact ⟨q+1,by omega,by omega,by go_num,eI,eJ,eK,eL,eM,eH,gO,gP⟩
      case measure=>simp[intOf];omega
     ·
      obtain rfl:q=4:=by omega
      have e4:((4:Nat):Int)=4:=rfl;rw[e4];clear e4;go_wp2_with fail;have iL:=Gr wr;refine Gd (fun W=>Bk W (w.heap.size+1) 23 (c8 n)∧Bk W (gL) 138 (C9 M7)) ?_;refine Ec (A:=?iY) [1,2,6] ⟨(aB.drew),(aC.drew)⟩ (fun W hW=>?gQ) ?iZ;case gQ=>have f1:=Bk.row8 (n:=32) (hW.1) (hn);have f6:=Bk.row64 (n:=5) (hW.2) (Z2);exact Fo
      refine M8 [zv 0 29 (J3 (Ek 4 (Ko p n m)).row),zv 3 32 (.int .u8 ((dg n s:Nat):Int)),zv 4 33 (.pointer (some ⟨cM,(dg n s)*20,none⟩)),zv 5 34 (J3 (U5 (Q7 p M7) (dg n s)).row),zv 7 36 (J3 (Ai (Ek 4 (Ko p n m)) (U5 (Q7 p M7) (dg n s)) M7).row)] (by kernel_rfl) (fun W hW=>⟨(aB.drew.bl hW),(aC.drew.bl hW)⟩) ?eO ?eP ?eQ;case eO=>exact Ng
      case eP=>
       refine (T7 ⟨?fR,(T7 ⟨?fS,(T7 ⟨?fT,(T7 ⟨?fU,(T7 ⟨?fV,Mh⟩)⟩)⟩)⟩)⟩);case fR=>
        intro o ho us W hW hp Q' hQ';obtain rfl:=Option.some.inj ho;clear hp ho;rw[C7]at hQ' ⊢;dsimp only[F0,J6,List.foldl,zv,za]at hQ' ⊢;simp only[Dk];have f0:=Bk.row64 (n:=20) (aA.drew.bl hW) ((Gg (Ja hp n m) 4).row);go_wp2_with fail;exact Ep (hQ' _ _ (Below.refl _ _) rfl nofun)
       case fS=>exact Vz fun W=>Wb n hn s (by omega) W
       case fT=>intro o ho us W hW hp Q' hQ';obtain rfl:=Option.some.inj ho;have dN:us 3=(.int .u8 ((dg n s:Nat):Int)):=hp 1 _ rfl (by kernel_rfl);clear hp ho;rw[C7]at hQ' ⊢;dsimp only[F0,J6,List.foldl,zv,za]at hQ' ⊢;simp only[Dk];rw[dN]at hQ' ⊢;clear dN;go_wp2_with fail;exact Ep (hQ' _ _ (Below.refl _ _) rfl nofun)
       case fU=>intro o ho us W hW hp Q' hQ';obtain rfl:=Option.some.inj ho;have fW:us 4=(.pointer (some ⟨cM,(dg n s)*20,none⟩)):=hp 2 _ rfl (by kernel_rfl);clear hp ho;rw[C7]at hQ' ⊢;dsimp only[F0,J6,List.foldl,zv,za]at hQ' ⊢;simp only[Dk];rw[fW]at hQ' ⊢;clear fW;have f5:=show J0 _ ⟨_,(dg n s)*20,none⟩ 20=some (C9 (U5 (Q7 p M7) (dg n s)).row) from Bk.plAt (i:=(dg n s)) (aE.drew.bl hW) (Ch hp M7) (by simp;try omega);go_wp2_with fail;exact Ep (hQ' _ _ (Below.refl _ _) rfl nofun)
       case fV=>intro o ho us W hW hp Q' hQ';obtain rfl:=Option.some.inj ho;have fX:us 0=(J3 (Ek 4 (Ko p n m)).row):=hp 0 _ rfl (by kernel_rfl);have dN:us 3=(.int .u8 ((dg n s:Nat):Int)):=hp 1 _ rfl (by kernel_rfl);have fY:us 5=(J3 (U5 (Q7 p M7) (dg n s)).row):=hp 3 _ rfl (by kernel_rfl);clear hp ho;rw[C7]at hQ' ⊢;dsimp only[F0,J6,List.foldl,zv,za]at hQ' ⊢;simp only[Dk];rw[fX,dN,fY]at hQ' ⊢;clear fX dN fY;go_wp2_with fail;refine (Mv (Ek 4 (Ko p n m)) (U5 (Q7 p M7) (dg n s)) M7 (Gg (Ja hp n m) 4) ((Ch hp M7).at (dg n s)) Z2 W).mono ?_;rintro e W2 ⟨rfl,b2⟩;go_wp2_with fail;exact Ep (hQ' _ _ b2 rfl nofun)
      case eQ=>
      intro us jA iM hg eA gK;have fX:us 0=(J3 (Ek 4 (Ko p n m)).row):=hg _ (Q6 0 rfl);have dN:us 3=(.int .u8 ((dg n s:Nat):Int)):=hg _ (Q6 1 rfl);have fW:us 4=(.pointer (some ⟨cM,(dg n s)*20,none⟩)):=hg _ (Q6 2 rfl);have fY:us 5=(J3 (U5 (Q7 p M7) (dg n s)).row):=hg _ (Q6 3 rfl);have iN:us 7=(J3 (Ai (Ek 4 (Ko p n m)) (U5 (Q7 p M7) (dg n s)) M7).row):=hg _ (Q6 4 rfl);have cW:=M9 iL iM;refine Ro ?_;rw[fX,dN,fW,fY,iN];clear hg eA gK fX dN fW fY iN iM iL;have iO:=M9 dG cW;have iP:=Nat.le_trans cU cW.size;have dO:=aG.bl cW;have dQ:=aB.bl cW;have dS:=aD.bl cW;have dT:=aC.bl cW;have dU:=aE.bl cW;have cO:=aA.bl cW;clear cW dG cU aG aB aD aC aE aA;obtain⟨jB,aL⟩:=H8 (E0 jA ⟨cM+1,0,none⟩ (C9 (Ai (Ek 4 (Ko p n m)) (U5 (Q7 p M7) (dg n s)) M7).row));have fZ:Bk jB (cM+1) 140 (C9 (Ai (Ek 4 (Ko p n m)) (U5 (Q7 p M7) (dg n s)) M7).row):=by rw[aL];exact Bk.put64 (cO) ((Gg (Ja hp n m) 4).row) ((Dw (Ek 4 (Ko p n m)) (U5 (Q7 p M7) (dg n s)) M7).row)
      have gA:=M6 aL dO (by omega);have dW:=M6 aL dQ (by omega);have gC:=M6 aL dS (by omega);have dX:=M6 aL dT (by omega);have gF:=M6 aL dU (by omega);have jC:=Cs aL iO (by omega);have eS:=Fs 20 cO ((Gg (Ja hp n m) 4).row);have eT:(Ai (Ek 4 (Ko p n m)) (U5 (Q7 p M7) (dg n s)) M7).row.length=20:=(Dw (Ek 4 (Ko p n m)) (U5 (Q7 p M7) (dg n s)) M7).row;refine Z3 8 fun Q' hQ'=>?_;dsimp only[F0];go_wp2_with fail;rw[←aL];refine hQ' _ _ ⟨dW,dX⟩ ?_;clear hQ' eS eT;have jD:=Jw aL iP;clear aL iO iP dO dQ dS dT dU cO;refine Fq ?_;go_wp2_with fail;go_roundw;case rel=>exact ⟨m+1,by omega,by omega,by rw[←ES.out];all_goals (simp<;>omega),gA,dW,gC,dX,gF,(by rw[HM.out];exact fZ),jC,jD⟩
      case measure=>have:=ES.out;simp[intOf]<;>omega
   ·
    obtain rfl:m=64:=by omega
    obtain⟨jP,aM⟩:=H8 (E0 wr ⟨w.heap.size+2,0,none⟩ (C9 (Ko p n 64).row));have eU:=Gp 20 aM aD (by simp) ((Ja hp n 64).row);have gR:=M6 aM aG (by omega);have gS:=M6 aM aB (by omega);have gT:=M6 aM aC (by omega);have gU:=M6 aM aE (by omega);have gV:=M6 aM aA (by omega);have gW:=Cs aM dG (by omega);have jE:=Bk.row64 (n:=20) (aA) ((Ja hp n 64).row);have eV:=Fs 20 aD (by simp);have aN:(Ko p n 64).row.length=20:=(Ja hp n 64).row;go_wp2_with fail;rw[←aM];clear jE eV aN;have jF:=Jw aM cU;clear aM cU;have eX:(Ko p n 64).row.length=20:=(Ja hp n 64).row;refine bodyPost_ret (E5 rfl _ _ _ _ _ _ rfl eU Bg rfl (by simp[Ey,eX])) rfl ⟨by rw[HZ.out];rfl,gW⟩
 case true=>have HZ:=Lib.hid (B3a n hz);clear hz;have jG:=Bk.row8 (n:=32) (bC) (hn);go_wp2_with fail;clear jG;refine (C2n n hn W2).mono ?_;rintro e Mu ⟨rfl,fC⟩;have iQ:=M9 B2 fC;have Uy:=Nat.le_trans z2 fC.size;have dY:=cS.bl fC;have dZ:=bC.bl fC;have cP:=cT.bl fC;clear fC B2 z2 cS bC cT;obtain⟨jQ,aZ⟩:=H8 (E0 Mu ⟨w.heap.size+2,0,none⟩ (C9 (Tn n).row));have eY:=Gp 20 aZ cP (by simp) ((Tz n).row);have gY:=M6 aZ dY (by omega);have gZ:=M6 aZ dZ (by omega);have iA:=Cs aZ iQ (by omega);have eZ:=Fs 20 cP (by simp);have aN:(Tn n).row.length=20:=(Tz n).row;go_wp2_with fail;rw[←aZ];clear eZ aN;have jH:=Jw aZ Uy;clear aZ dY dZ cP iQ Uy;have eX:(Tn n).row.length=20:=(Tz n).row;refine bodyPost_ret (E5 rfl _ _ _ _ _ _ rfl eY Bg rfl (by simp[Ey,eX])) rfl ⟨by rw[HZ.out];rfl,iA⟩
section
def Tl (c e:UInt8):List UInt8:=c::e::z8 30
attribute [simp, go_sem] Mt
@[simp, go_sem] theorem Qn (c e : UInt8) : (Tl c e).length = 32 := by simp [Tl]
theorem C0m (c e:UInt8) (w:World):(Instr.build 23 #[(0,v8 c),(1,v8 e)]).run Tryz.prog w=.ok (A8 (Tl c e)) w:=by kernel_rfl
attribute [irreducible] Tl
open Classical in
noncomputable def Ns (w:World) (raw:Result Next) (v u:Value):Result Next:=if h:∃p:UInt8×UInt8,v=v8 p.1∧u=v8 p.2 then .ok (.value (A8 (Tl h.choose.1 h.choose.2))) w else raw
theorem Ts (w:World) (raw:Result Next) (c e:UInt8):Ns w raw (v8 c) (v8 e)=.ok (.value (A8 (Tl c e))) w:=by
 have h:∃p:UInt8×UInt8,v8 c=v8 p.1∧v8 e=v8 p.2:=⟨(c,e),rfl,rfl⟩;unfold Ns;rw[dif_pos h,←B7k h.choose_spec.1,←B7k h.choose_spec.2]
@[go_sem] theorem D5r (w : World) (raw : Result Next) (c e : UInt8) : Ns w raw (.int .u8 (n8 c)) (.int .u8 (n8 e)) = .ok (.value (A8 (Tl c e))) w := Ts w raw c e
@[go_sem] theorem D5k (w : World) (raw : Result Next) (c : UInt8) : Ns w raw (.int .u8 (n8 c)) (.int .u8 77) = .ok (.value (A8 (Tl c 77))) w := Ts w raw c 77
@[go_sem] theorem D9b (w : World) (raw : Result Next) (c : UInt8) : Ns w raw (.int .u8 (n8 c)) (.int .u8 3) = .ok (.value (A8 (Tl c 3))) w := Ts w raw c 3
@[go_sem ↓ high] theorem D4i (w : World) (ρ : Operand → Value) (dst : Option Tmp) (ty : TypeId) (pos : String) (after : Array Edge) (guard : Option (Nat × Bool)) (x y : Operand) :
 (execOp ρ { dst,op:=.build 23 #[(0,x),(1,y)],type:=ty,pos,after,guard }).run Tryz.prog w=Ns w (T9 Tryz.prog ρ { dst,op:=.build 23 #[(0,x),(1,y)],type:=ty,pos,after,guard } w) (ρ x) (ρ y):=by
 unfold Ns;split
 ·rename_i h
  have h1:=h.choose_spec;generalize h.choose=c at h1;refine U9 w ρ dst ty pos after guard _ _ _ ?_;simp only[List.map_toArray,List.map_cons,List.map_nil,h1.1,h1.2];exact C0m c.1 c.2 w
 ·rfl
def Tg (p:Pn):Bool:=J8 (Pf 3 p)==h1 1
set_option maxRecDepth 100000
theorem B6j (p:Pn) (hp:p.Ok) (w:World):Calls Tryz.prog 114 #[J3 p.row] w fun e w'=>e=.returned (.bool (Tg p))∧Below w.heap.size w w':=by
 rw[Pn.seg];have h3:(Pf 3 p).Ok:=A8o _ _;exact sx_fun (g:=gPt) 100 (p.av hp) [dP (padd_v p p hp hp) (A8o _ _),dP (padd_v (A7u p p) (A7u p p) (A8o _ _) (A8o _ _)) (A8o _ _),dP (padd_v (Pf 2 p) (Pf 2 p) (A8o _ _) (A8o _ _)) h3,dH (phash_v (Pf 3 p) h3) (Q5 _),dEq (J8 (Pf 3 p)) (h1 1) (Q5 _) (Mt _) rfl] mixed Tryz.func114 (by kernel_rfl) w
end
theorem A0o {P:Program} {t e:TypeId} {n:Nat} (hu:P.underlying t=some (.array n e)) (w:World) (g o k c:Nat) (hk:n≤k):(Instr.arrayAt t (.slice (some ⟨g,o,none⟩) k c)).run P w=.ok (.pointer (some ⟨g,o,none⟩)) w:=by
 have aA:¬ k<n:=by omega
 simp[Instr.arrayAt,run_underlying hu,aA]
@[go_sem] theorem D9c (w : World) (g o k c : Nat) (hk : 4 ≤ k) : (Instr.arrayAt 182 (.slice (some ⟨g, o, none⟩) k c)).run Tryz.prog w = .ok (.pointer (some ⟨g, o, none⟩)) w := A0o Tryz.underlying182 w g o k c hk
@[go_sem] theorem D4z (w : World) (g o k c : Nat) (hk : 32 ≤ k) : (Instr.arrayAt 23 (.slice (some ⟨g, o, none⟩) k c)).run Tryz.prog w = .ok (.pointer (some ⟨g, o, none⟩)) w := A0o Tryz.underlying23 w g o k c hk
def scW (b:List UInt8):List UInt64:=wl b 4 32
@[simp, go_sem] theorem Gc (b : List UInt8) : (scW b).length = 4 := by unfold scW; simp
def Tp (b:List UInt8):Bool:=Cy (scW b)==scW b
def Fh (b:List UInt8):List UInt64:=if Tp b then scW b else K9 4
theorem Jb (b:List UInt8):(Fh b).length=4:=by unfold Fh;split<;>simp
theorem C2f {b:List UInt8} (h:Tp b=true):Fh b=scW b:=if_pos h
theorem C4k {b:List UInt8} (h:Tp b=false):Fh b=K9 4:=if_neg (by rw[h];decide)
theorem C5t (b:List UInt8) (hb:b.length=32) (w:World):Calls Tryz.prog 115 #[A8 b] w fun e w'=>e=.returned (.tuple #[J3 (Fh b),.bool (Tp b)])∧Below w.heap.size w w':=by
 have bV:=Im (Gc b);obtain⟨W0,bF⟩:=H8 (((w.alloc (Obj.cells (c8 b).toArray 23)).alloc (Obj.cells (C9 (K9 4)).toArray 184)));have hL:W0=O9 w [(23,(c8 b)),(184,(C9 (K9 4)))]:=bF;have B0:=Li hL;have aN:=Me hL rfl;have aW:=Jh 1 hL rfl;have z0:=ZL' 2 hL rfl;clear hL;go_enter Tryz.func115,Tryz.ntmps115;go_wp2_with fail;rw[←bF];clear bF;refine (A6o b 32 4 w.heap.size _ hb rfl (by decide) W0 aN).mono ?_;rintro e W1 ⟨p3,rfl,aB,bR,b2⟩;clear bR;have B1:=M9 B0 b2;have z1:=Nat.le_trans z0 b2.size;have aX:=aN.bl b2;have aO:=aW.bl b2;clear b2 B0 z0 aN aW;have aB:Bk W1 (p3) 117 (C9 (scW b)):=aB;obtain⟨V5,aU⟩:=H8 (W1.alloc (Obj.cells (C9 (K9 4)).toArray 182));have aV:W1.heap.size=W1.heap.size:=rfl;have aC:Bk V5 (W1.heap.size) 182 (C9 (K9 4)):=by rw[aU,←aV];exact Bk.new W1 _ _
 have aK:=Bu aU aO;have bN:=Mx aU B1;have aD:=Ce aV aX;have aE:=Ce aV aO;have aF:=Ce aV aB;have aY:w.heap.size+2≤W1.heap.size:=by rw[←aV];exact Nat.le_trans z1 (Nat.le_refl _)
 clear aV;obtain⟨V6,aZ⟩:=H8 (E0 V5 ⟨W1.heap.size,0,none⟩ (C9 (scW b)));have aA:=Gp 4 aZ aC (by simp) (Gc b);have aL:=M6 aZ aK (by omega);have bO:=Cs aZ bN (by omega);have f4:=Bk.row64 (n:=4) (aB) ((Gc b));have aM:=Fs 4 aC (by simp);rw[aU]at aM;have aG:(scW b).length=4:=(Gc b);go_wp2_with fail;rw[←aU,←aZ];clear f4 aM aG;obtain⟨p7,bG⟩:=H8 (W1.heap.size);rw[←bG]at aA aD aE aF aY;try rw[←bG]
 clear aU aZ bG aX aO aB B1 z1 aK aC bN;have S8:=Gr V6;refine Gd (fun W=>Bk W (p7) 182 (C9 (scW b))) ?_;refine Ec (A:=?bX) [0,2] (aA.drew) (fun W hW=>?bS) ?bY;case bS=>
  have f0:=Bk.row64 (n:=4) (hW) ((Gc b));exact Fo
 refine M8 [zv 1 10 (J3 (Cy (scW b))),zv 3 12 (.bool (!(Cy (scW b)==scW b)))] (by kernel_rfl) (fun W hW=>(aA.drew.bl hW)) ?bA ?bB ?bC;case bA=>exact Ng
 case bB=>
  refine (T7 ⟨?bH,(T7 ⟨?bI,Mh⟩)⟩);case bH=>
   exact Vz fun W=>Ti (scW b) (Gc b) W
  case bI=>intro o ho us W hW hp Q' hQ';obtain rfl:=Option.some.inj ho;have bD:us 1=(J3 (Cy (scW b))):=hp 0 _ rfl (by kernel_rfl);clear hp ho;rw[C7]at hQ' ⊢;dsimp only[F0,J6,List.foldl,zv,za]at hQ' ⊢;simp only[Dk];rw[bD]at hQ' ⊢;clear bD;go_wp2_with fail;exact Ep (hQ' _ _ (Below.refl _ _) rfl nofun)
 case bC=>
 intro us W9 bP hg bJ bT;have bD:us 1=(J3 (Cy (scW b))):=hg _ (Q6 0 rfl);have bQ:us 3=(.bool (!(Cy (scW b)==scW b))):=hg _ (Q6 1 rfl);have bE:=M9 S8 bP;refine Ro ?_;rw[bD,bQ];clear hg bJ bT bD bQ bP S8;have B9:=M9 bO bE;have aH:=aL.bl bE;have bK:=aA.bl bE;clear bE bO aL aA;refine Fq ?_;cases hz:(Cy (scW b)==scW b);case false=>
  rw[Bool.not_false];have HE:=Lib.hid (C4k hz);have HB:Hid (Tp b=false):=Lib.hid hz;clear hz;obtain⟨bZ,aI⟩:=H8 (E0 W9 ⟨w.heap.size+1,0,none⟩ (C9 (K9 4)));have aP:=Gp 4 aI aH (by simp) (by simp);have bL:=Cs aI B9 (by omega);have aQ:=Fs 4 aH (by simp);have aG:(K9 4).length=4:=(show (K9 4).length=4 from by simp);go_wp2_with fail;rw[←aI];clear aQ aG;clear aI;have aR:(K9 4).length=4:=(show (K9 4).length=4 from by simp);refine bodyPost_ret (v:=.tuple #[J3 (K9 4),.bool false]) ?_ rfl ⟨?_,bL⟩
  ·refine Q4 rfl ?_ ?_
   ·exact P8.row aP rfl _ Hg rfl (by simp[Lj,aR])
   ·exact P8.tmp rfl
  ·rw[HE.out,HB.out]
 case true=>
  rw[Bool.not_true];have HE:=Lib.hid (C2f hz);have HB:Hid (Tp b=true):=Lib.hid hz;clear hz;obtain⟨cA,aJ⟩:=H8 (E0 W9 ⟨w.heap.size+1,0,none⟩ (C9 (scW b)));have aS:=Gp 4 aJ aH (by simp) (Gc b);have bM:=Cs aJ B9 (by omega);have bU:=Bk.row64 (n:=4) (bK) ((Gc b));have aT:=Fs 4 aH (by simp);have aG:(scW b).length=4:=(Gc b);go_wp2_with fail;rw[←aJ];clear bU aT aG;clear aJ;have aR:(scW b).length=4:=(Gc b);refine bodyPost_ret (v:=.tuple #[J3 (scW b),.bool true]) ?_ rfl ⟨?_,bM⟩
  ·refine Q4 rfl ?_ ?_
   ·exact P8.row aS rfl _ Hg rfl (by simp[Lj,aR])
   ·exact P8.tmp rfl
  ·rw[HE.out,HB.out]
def mT (x y t c:UInt64):UInt64:=Za (Za (x*y) t 0) c 0
def mC (x y t c:UInt64):UInt64:=B3l x y+A0w (x*y) t 0+A0w (Za (x*y) t 0) c 0
def mIn (x:UInt64) (b:List UInt64) (i:Nat) (t:List UInt64):Nat→List UInt64×UInt64
 | 0=>(t,0)
 | j+1=>((mIn x b i t j).1.set (i+j) (mT x (F9 b j) (F9 (mIn x b i t j).1 (i+j)) (mIn x b i t j).2),mC x (F9 b j) (F9 (mIn x b i t j).1 (i+j)) (mIn x b i t j).2)
theorem Qj (x:UInt64) (b:List UInt64) (i:Nat) (t:List UInt64):∀j,(mIn x b i t j).1.length=t.length
 | 0=>rfl
 | j+1=>by show (List.set _ _ _).length=_;rw[List.length_set];exact Qj x b i t j
def A7t (a b:List UInt64):Nat→List UInt64
 | 0=>K9 8
 | i+1=>(mIn (F9 a i) b i (A7t a b i) 4).1.set (i+4) (mIn (F9 a i) b i (A7t a b i) 4).2
theorem Sj (a b:List UInt64):∀i,(A7t a b i).length=8
 | 0=>by show (K9 8).length=8;simp
 | i+1=>by show (List.set _ _ _).length=_;rw[List.length_set,Qj];exact Sj a b i
def Hk (a b:List UInt64):List UInt64:=Sm (A7t a b 4)
theorem B0r (a b:List UInt64):(Hk a b).length=4:=Kg _
theorem C6a (a b:List UInt64) (ha:a.length=4) (hb:b.length=4) (w:World):Calls Tryz.prog 109 #[J3 a,J3 b] w fun e w'=>e=.returned (J3 (Hk a b))∧Below w.heap.size w w':=by
 obtain⟨W0,aA⟩:=H8 ((((w.alloc (Obj.cells (C9 a).toArray 184)).alloc (Obj.cells (C9 b).toArray 184)).alloc (Obj.cells (C9 (K9 4)).toArray 184)).alloc (Obj.cells (C9 (K9 8)).toArray 155));have hL:W0=O9 w [(184,C9 a),(184,C9 b),(184,C9 (K9 4)),(155,C9 (K9 8))]:=aA;have B0:=Li hL;have K0:=Me hL rfl;have L0:=Jh 1 hL rfl;have R0:=Jh 2 hL rfl;have D0:=Jh 3 hL rfl;have ra:=K0.row64 ha;rw[aA]at ra;clear hL;go_enter Tryz.func109,Tryz.ntmps109;go_wp2_with fail;rw[←aA];clear aA ra K0;go_loopw [16] (fun x wr=>∃i:Nat,i≤4∧x=.int .i64 (i:Int)∧Bk wr (w.heap.size+1) 184 (C9 b)∧Bk wr (w.heap.size+2) 184 (C9 (K9 4))∧Bk wr (w.heap.size+3) 155 (C9 (A7t a b i))∧Below w.heap.size w wr) (fun x _=>4-(intOf x).toNat)
 case atStart=>exact ⟨0,by omega,rfl,L0,R0,D0,B0⟩
 case round=>
  clear L0 R0 D0 B0;obtain⟨i,hi,rfl,L,R,D,B⟩:=hrel;by_cases hlt:i<4
  ·obtain⟨x,hx⟩:=H8 (F9 a i);obtain⟨t,ht⟩:=H8 (A7t a b i);have aD:t.length=8:=by rw[ht];exact Sj a b i
   have HN:Hid (A7t a b (i+1)=(mIn x b i t 4).1.set (i+4) (mIn x b i t 4).2):=Lib.hid (by rw[ht,hx];rfl);have aI:decide ((i:Int)<4)=true:=decide_eq_true (by omega);rw[←ht]at D;clear ht;have aE:=Lib.hid aD;clear aD;have D0:Bk wr (w.heap.size+3) 155 (C9 (mIn x b i t 0).1):=D;have rb:=L.row64 hb;have aF:F9 a i=x:=hx.symm;clear hx D;go_wp2_with fail;clear rb aF;go_loopw [22,8] (fun y c wr=>∃j:Nat,j≤4∧y=.int .i64 (j:Int)∧c=.int .u64 (L6 (mIn x b i t j).2)∧Bk wr (w.heap.size+1) 184 (C9 b)∧Bk wr (w.heap.size+2) 184 (C9 (K9 4))∧Bk wr (w.heap.size+3) 155 (C9 (mIn x b i t j).1)∧Below w.heap.size w wr) (fun y _ _=>4-(intOf y).toNat)
   case atStart=>exact ⟨0,by omega,rfl,rfl,L,R,D0,B⟩
   case round=>
    clear L R D0 B;obtain⟨j,hj,rfl,rfl,L,R,D,B⟩:=hrel;by_cases hlj:j<4
    ·obtain⟨u,hu⟩:=H8 ((mIn x b i t j).1);obtain⟨c,hc⟩:=H8 ((mIn x b i t j).2);obtain⟨q,hq⟩:=H8 (i+j);obtain⟨y,hy⟩:=H8 (F9 b j);obtain⟨v,hv⟩:=H8 (F9 u q);have aC:u.length=8:=by rw[hu,Qj];exact aE.out
     have HI:Hid (mIn x b i t (j+1)=(u.set q (mT x y v c),mC x y v c)):=Lib.hid (by rw[hv,hy,hu,hc,hq];rfl);rw[←hu]at D;rw[←hc];have aJ:(i:Int)+(j:Int)=(q:Int):=by omega
     have aK:q<8:=by omega
     have aL:decide ((j:Int)<4)=true:=decide_eq_true (by omega);have d0:=D.at_ (M5 (l:=u) (i:=q) (by omega));rw[←hv]at d0;have aM:F9 b j=y:=hy.symm;have f0:=D.frozen q;have D3:=D.set_ q (.int .u64 (L6 (mT x y v c)));rw[Cb]at D3;clear hu hc hq hy hv aC;go_wp2_with fail;refine (Ys x y wr).mono ?_;rintro e w2 ⟨rfl,rfl⟩;go_wp2_with fail;go_roundw;case rel=>exact ⟨j+1,by omega,by go_num,by rw[HI.out];rfl,L.far (by show w.heap.size+1≠w.heap.size+3;omega) _,R.far (by show w.heap.size+2≠w.heap.size+3;omega) _,by rw[HI.out];exact D3,B.setCell (by show w.heap.size≤w.heap.size+3;omega) _⟩
     case measure=>simp[intOf];omega
    ·obtain rfl:j=4:=by omega
     have e4:((4:Nat):Int)=4:=rfl;rw[e4];clear e4;obtain⟨u,hu⟩:=H8 ((mIn x b i t 4).1);obtain⟨c,hc⟩:=H8 ((mIn x b i t 4).2);have aC:u.length=8:=by rw[hu,Qj];exact aE.out
     have HI:Hid (A7t a b (i+1)=u.set (i+4) c):=Lib.hid (by rw[HN.out,hu,hc]);rw[←hu]at D;rw[←hc];have aN:((i:Int)+4).toNat=i+4:=by omega
     have d0:=D.at_ (M5 (l:=u) (i:=i+4) (by omega));have f0:=D.frozen (i+4);have D3:=D.set_ (i+4) (.int .u64 (L6 c));rw[Cb]at D3;clear hu hc aC;go_wp2_with fail;go_roundw;case rel=>exact ⟨i+1,by omega,by go_num,L.far (by show w.heap.size+1≠w.heap.size+3;omega) _,R.far (by show w.heap.size+2≠w.heap.size+3;omega) _,by rw[HI.out];exact D3,B.setCell (by show w.heap.size≤w.heap.size+3;omega) _⟩
     case measure=>simp[intOf];omega
  ·obtain rfl:i=4:=by omega
   have e4:((4:Nat):Int)=4:=rfl;rw[e4];clear e4;obtain⟨ws,aB⟩:=H8 (A7t a b 4);have aG:ws.length=8:=by rw[aB];exact Sj a b 4
   have HS:Hid (Hk a b=Sm ws):=Lib.hid (by rw[aB];rfl);rw[←aB]at D;clear aB;go_wp2_with fail;refine (A6z ws 8 (w.heap.size+3) _ aG (by decide) wr D).mono ?_;rintro e w2 ⟨rfl,b2⟩;have R2:=R.bl b2;have B2:=M9 B b2;have hl:=Kg ws;have aH:=Iq 4 R2 (by simp);go_wp2_with fail;refine bodyPost_ret (E5 rfl _ _ _ _ _ _ rfl (R2.puts (vs:=C9 (Sm ws)) (by simp[hl])) Hg rfl (by simp[Lj,hl])) rfl ⟨by rw[HS.out];rfl,C5 B2 (by show w.heap.size≤w.heap.size+2;omega) _⟩
theorem D8x:(Tryz.prog.info? 45).map (fun i=>(i.zero,i.size,i.bytes))=some (some (.slice none 0 0),1,24):=by kernel_rfl
theorem Q3.one_cells {w:World} {B:Nat} {vs:List Value} {ls:List (List UInt8)} (h2:vs.length=ls.length) (h3:∀(i:Nat) (x:Value) (l:List UInt8),vs[i]?=some x→ls[i]?=some l→By w 0 B x l):∀u∈vs,u.oneCell'=true:=by
 intro u hu;obtain⟨i,hi⟩:=List.getElem?_of_mem hu;have aA:=(List.getElem?_eq_some_iff.1 hi).1;obtain⟨A,c,rfl,_⟩:=(h3 i u _ hi (List.getElem?_eq_getElem (by omega))).open_;rfl
theorem Q3.join {w w':World} {v:Value} {vs vs':List Value} {ls ls':List (List UInt8)} (hv:vs.length=ls.length) (hv':vs'.length=ls'.length) (hs:Sl w' 0 w'.heap.size v (vs++vs')) (hb:Below w.heap.size w w')
 (h3:∀(i:Nat) (x:Value) (l:List UInt8),vs[i]?=some x→ls[i]?=some l→By w 0 w.heap.size x l) (h3':∀(i:Nat) (x:Value) (l:List UInt8),vs'[i]?=some x→ls'[i]?=some l→By w 0 w.heap.size x l):Q3 w' w'.heap.size v (ls++ls'):=by
 refine ⟨vs++vs',hs,by simp[hv,hv'],fun i x l hx hl=>?_⟩;by_cases hi:i<vs.length
 ·rw[List.getElem?_append_left hi]at hx;rw[List.getElem?_append_left (by omega)]at hl;exact ((h3 i x l hx hl).below hb).more hb.size
 ·rw[List.getElem?_append_right (by omega)]at hx;rw[List.getElem?_append_right (by omega),←hv]at hl;exact ((h3' _ x l hx hl).below hb).more hb.size
theorem A4w (g o n:Nat) (vp:Value) (ls ps:List (List UInt8)) (w:World) (ha:Q3 w w.heap.size (.slice (some ⟨g,o,none⟩) n n) ls) (hp:Q3 w w.heap.size vp ps) (h0:0<ps.length) (hsz:ls.length+ps.length≤1000000) :
 Calls Tryz.prog 106 #[vp,.slice (some ⟨g,o,none⟩) n n] w fun e w'=>∃v,e=.returned v∧Q3 w' w'.heap.size v (ls++ps)∧Below w.heap.size w w':=by
 obtain⟨vs,⟨A,c,e1,h1,h2,aL⟩,aM,aN⟩:=ha;obtain⟨aA,⟨A',c',rfl,bA,bB,aF⟩,aC,aD⟩:=hp;injection e1 with e1 e2 e3;subst e1 e2 e3;obtain⟨i0,aO,aP,aQ,aR⟩:=info_parts D8x;have hn:aA.length≠0:=by omega
 have aG:∀j u,vs[j]?=some u→w.cell? ⟨g,o+j,none⟩=some u:=by
  rcases aL with h | ⟨g',o',e,_,_,hc⟩
  ·intro j u hj;rw[h]at hj;cases hj
  ·injection e with e;injection e with e1 e2;subst e1 e2;exact hc
 rcases aF with h | ⟨g',o',rfl,_,_,hc'⟩
 ·rw[h]at hn;exact absurd rfl hn
 have aB:=Q3.one_cells aC aD;have bC:Hid _:=Lib.hid aG;have aS:Hid _:=Lib.hid hc';have aT:Hid _:=Lib.hid aN;have aH:Hid _:=Lib.hid aD;have aI:Hid _:=Lib.hid aB;have aU:=Lib.hid aO;have aV:=Lib.hid aP;have aW:=Lib.hid aQ;have aX:=Lib.hid aR;have aY:=Lib.hid aM;have aJ:=Lib.hid aC;have K1:Hid (some (⟨g,o,none⟩:Addr)=none→vs.length=0∧vs.length=0):=Lib.hid (fun h=>by cases h);have K2:Hid (vs.length=vs.length*1):=Lib.hid (by omega);have K3:Hid (∀b:Addr,some (⟨g,o,none⟩:Addr)=some b→∀j u,vs[j]?=some u→w.cell? (b.add j)=some u):=Lib.hid (fun b hb j u hj=>by injection hb with hb;subst hb;rw[Ci];exact aG j u hj);have K4:Hid (aA.length=aA.length*1):=Lib.hid (by omega);have K5:Hid (∀j u,aA[j]?=some u→w.cell? ((⟨g',o',none⟩:Addr).add j)=some u):=Lib.hid (fun j u hj=>by rw[Ci];exact hc' j u hj);have K6:Hid (vs.length<vs.length+aA.length):=Lib.hid (by omega);have K7:Hid (vs.length+aA.length≤maxLen):=Lib.hid (by simp only[maxLen];omega);have K8:Hid ((vs.length+aA.length)*24≤140737488355328):=Lib.hid (by omega);clear aG hc' aN aD aB aO aP aQ aR aM aC aL;go_enter Tryz.func106,Tryz.ntmps106;go_wp2_with (at_builtin;refine wpList_append_grows _ rfl _ _ 152 rfl 45 i0 _ 1 24 Tryz.underlying152 aU.out aV.out aW.out aX.out rfl (by decide) (some ⟨g,o,none⟩) vs.length vs.length vs rfl K1.out K2.out K3.out ⟨g',o',none⟩ aA.length c' aA rfl K4.out K5.out aI.out K6.out K7.out K8.out ?_;intro v' w' aK aZ)
 have aE:Below w.heap.size w w':=(Below.refl w.heap.size w).grown aZ (Nat.le_refl _) (fun k hk=>by cases hk);go_ret;exact ⟨v',rfl,Q3.join aY.out aJ.out (Sl.less (Sl.of_own aK) (Nat.zero_le _)) aE aT.out aH.out,aE⟩
theorem Q3.up {w w':World} {v:Value} {ls:List (List UInt8)} (h:Q3 w w.heap.size v ls) (hb:Below w.heap.size w w'):Q3 w' w'.heap.size v ls:=(h.below hb).more hb.size
theorem By.up {w w':World} {v:Value} {l:List UInt8} (h:By w 0 w.heap.size v l) (hb:Below w.heap.size w w'):By w' 0 w'.heap.size v l:=(h.below hb).more hb.size
theorem Bk.by {w:World} {g:Nat} {t:TypeId} {l m:List UInt8} (K:Bk w g t (c8 l)) (o n c:Nat) (hn:o+n≤l.length) (hc:n≤c) (hc2:c≤9223372036854775807) (hm:(l.drop o).take n=m):By w 0 w.heap.size (.slice (some ⟨g,o,none⟩) n c) m:=by
 have aA:m.length=n:=by rw[←hm];simp;omega
 have:=By.mk_ (w:=w) (lo:=0) (B:=w.heap.size) (A:=some ⟨g,o,none⟩) (c:=c) (l:=m) (by omega) (by unfold maxLen;exact hc2) (.inr ⟨g,o,rfl,Nat.zero_le _,K.lt,fun j u hj=>K.at_ (by
  have h1:j<m.length:=by have:=(List.getElem?_eq_some_iff.1 hj).1;simpa using this
  rw[←hj,←hm];simp only[c8,List.map_take,List.map_drop,List.getElem?_take,List.getElem?_drop];rw[if_pos (by omega)])⟩)
 rwa [aA]at this
theorem Bk.byAll {w:World} {g:Nat} {t:TypeId} {l:List UInt8} {n:Nat} (K:Bk w g t (c8 l)) (hl:l.length=n) (hn:n≤9223372036854775807):By w 0 w.heap.size (.slice (some ⟨g,0,none⟩) n n) l:=
 K.by 0 n n (by omega) (Nat.le_refl _) hn (by rw[List.drop_zero,List.take_of_length_le (by omega)])
def zs (i:Nat) (d:Tmp) (n:Nat) (ls:List (List UInt8)):Soup:=⟨i,d,fun v w=>∃g,v=.slice (some ⟨g,0,none⟩) n n∧Q3 w w.heap.size v ls,false⟩
def zp (i:Nat) (d:Tmp) (ls:List (List UInt8)):Soup:=⟨i,d,fun v w=>Q3 w w.heap.size v ls,false⟩
def zb (i:Nat) (d:Tmp) (l:List UInt8):Soup:=⟨i,d,fun v w=>By w 0 w.heap.size v l,false⟩
theorem zs_mono (i:Nat) (d:Tmp) (n:Nat) (ls:List (List UInt8)):(zs i d n ls).mono:=fun _ _ _ ⟨g,e,h⟩ hb=>⟨g,e,h.up hb⟩
theorem zp_mono (i:Nat) (d:Tmp) (ls:List (List UInt8)):(zp i d ls).mono:=fun _ _ _ h hb=>h.up hb
theorem zb_mono (i:Nat) (d:Tmp) (l:List UInt8):(zb i d l).mono:=fun _ _ _ h hb=>h.up hb
def A1j (l:List UInt8):List UInt64:=Vc (Zz l)
theorem A4j (l:List UInt8):(A1j l).length=4:=Iv _
theorem B5j (vp:Value) (ls:List (List UInt8)) (w:World) (hp:Q3 w w.heap.size vp ls) (hsz:ls.flatten.length≤1099511627776):Calls Tryz.prog 105 #[vp] w fun e w'=>e=.returned (J3 (A1j ls.flatten))∧Below w.heap.size w w':=by
 obtain⟨W0,aA⟩:=H8 (w.alloc (Obj.cells (C9 (K9 4)).toArray 184));have B0:=BA' aA;have R0:=KN' aA;have P0:=Lib.hid (hp.up B0);clear hp;go_enter Tryz.func105,Tryz.ntmps105;go_wp2_with fail;rw[←aA];clear aA;refine (A3t vp ls W0 P0.out hsz).mono ?_;rintro e w1 ⟨rfl,b1⟩;have R1:=R0.bl b1;have B1:=M9 B0 b1;obtain⟨h,hh⟩:=H8 (Zz ls.flatten);have hl:h.length=64:=by rw[hh];exact Xo _
 have HN:Hid (A1j ls.flatten=Vc h):=Lib.hid (by rw[hh];rfl);rw[←hh];clear hh;go_wp2_with fail;refine (A7b h hl w1).mono ?_;rintro e w2 ⟨rfl,b2⟩;have R2:=R1.bl b2;have B2:=M9 B1 b2;have aB:=Iv h;have aC:=Iq 4 R2 (by simp);go_wp2_with fail;refine bodyPost_ret (E5 rfl _ _ _ _ _ _ rfl (R2.puts (vs:=C9 (Vc h)) (by simp[aB])) Hg rfl (by simp[Lj,aB])) rfl ⟨by rw[HN.out];rfl,C5 B2 (Nat.le_refl _) _⟩
theorem RG' {P Q : Prop} (q : Q) (h : Q → P := by
  intro q
  rw [C7]
  dsimp only [J6, List.foldl, zv, za, zs, zp, zb]
  simp only [List.set_cons_succ, List.set_cons_zero]
  exact q) : P := h q
theorem KG' {Q : World → Prop} {P : Prop} (c : ∀ W, Q W) (h : (∀ W, Q W) → P := by
  intro c o ho us W hW hp Q' hQ'
  obtain rfl := Option.some.inj ho
  clear hp ho
  rw [C7] at hQ' ⊢
  dsimp only [F0, J6, List.foldl, zv, za, zs, zp, zb] at hQ' ⊢
  simp only [List.set_cons_succ, List.set_cons_zero]
  go_wp2_with fail
  refine (c W).mono ?_
  rintro e W2 ⟨rfl, b2⟩
  go_wp2_with fail
  exact Ih (hQ' _ _ b2 rfl (fun h => by cases h)) (by kernel_rfl)) : P := h c
end Go.Proofs.YtlegpkdighoflaaGreat
