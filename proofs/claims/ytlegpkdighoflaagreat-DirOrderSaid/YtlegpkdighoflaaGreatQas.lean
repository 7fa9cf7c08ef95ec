/- A part of the proof of DirOrder. -/
import Derived.Test.YtlegpkdighoflaaGreatQar
set_option linter.unusedVariables false
set_option linter.unusedSimpArgs false
set_option maxRecDepth 100000
set_option maxHeartbeats 40000000
namespace Go.Proofs.YtlegpkdighoflaaGreat
open Go Go.RowKit Sh
def Bn:Nat→Pn→Pn
 | 0,p=>p
 | q+1,p=>Ic (Bn q p)
theorem Da {p:Pn} (hp:p.Ok):∀q,(Bn q p).Ok
 | 0=>hp
 | q+1=>Fo _
def Aw (n:List UInt8) (p:Pn) (m:List UInt8):Nat→Pn
 | 0=>O9 (M5 E4 I9) 0
 | i+1=>T6 (T6 (Bn 4 (Aw n p m i)) (O9 (M5 E4 I9) (dg n (63-i))) I9) (O9 (M5 p I9) (dg m (63-i))) I9
theorem Dg (n:List UInt8) (p:Pn) (m:List UInt8):∀i,(Aw n p m i).Ok
 | 0=>(Y7 Bc I9).at 0
 | i+1=>Bd _ _ _
def Js (n:List UInt8) (p:Pn) (m:List UInt8):Pn:=Aw n p m 64
theorem B5n (n:List UInt8) (p:Pn) (m:List UInt8):(Js n p m).Ok:=Dg _ _ _ _
def Km:Nat→Pn→Pn
 | 0,p=>p
 | q+1,p=>A1u (Km q p) (Km q p)
theorem Kc {p:Pn} (hp:p.Ok):∀q,(Km q p).Ok
 | 0=>hp
 | q+1=>A2f _ _
theorem B7i (n:List UInt8) (p:Pn) (mm:List UInt8) (hn:n.length=32) (hp:p.Ok) (hmm:mm.length=32) (w:World):Calls Tryz.prog 116 #[A8 n,H7 p.row,A8 mm] w fun e w'=>e=.returned (H7 (Js n p mm).row)∧Below w.heap.size w w':=by
 have kD:=Bc.row;obtain⟨W0,iF⟩:=H8 (((((w.alloc (Obj.cells (c8 n).toArray 23)).alloc (Obj.cells (C9 p.row).toArray 140)).alloc (Obj.cells (c8 mm).toArray 23)).alloc (Obj.cells (C9 (I3 20)).toArray 140)));have hL:W0=M2 w [(23,(c8 n)),(140,(C9 p.row)),(23,(c8 mm)),(140,(C9 (I3 20)))]:=iF;have B0:=Jc hL;have fT:=Jy hL rfl;have fU:=Gs 1 hL rfl;have fV:=Gs 2 hL rfl;have fW:=Gs 3 hL rfl;have z0:=Vp 4 hL rfl;have jH:=SL' 4 hL rfl;clear hL;go_enter Tryz.func116,Tryz.ntmps116;go_wp2_with fail;rw[←iF];clear iF jH;refine (Se W0).mono ?_;rintro e W1 ⟨rfl,b2⟩;have B1:=J5 B0 b2;have z1:=Nat.le_trans z0 b2.size;have eE:=fT.bl b2;have eF:=fU.bl b2;have eG:=fV.bl b2;have eH:=fW.bl b2;clear b2 B0 z0 fT fU fV fW;obtain⟨V3,cS⟩:=H8 (W1.alloc (Obj.cells (C9 (I3 5)).toArray 138));have eI:W1.heap.size=W1.heap.size:=rfl;have bL:Bk V3 (W1.heap.size) 138 (C9 (I3 5)):=by rw[cS,←eI];exact Bk.new W1 _ _
 have cX:=Y3 cS eE;have cY:=Y3 cS eF;have cZ:=Y3 cS eG;have dB:=Y3 cS eH;have iS:=Jx cS B1;have bM:=Y9 eI eE;have bN:=Y9 eI eF;have bO:=Y9 eI eG;have bP:=Y9 eI eH;have fX:w.heap.size+4≤W1.heap.size:=by rw[←eI];exact Nat.le_trans z1 (Nat.le_refl _)
 clear eI;obtain⟨V4,cT⟩:=H8 (E0 V3 ⟨W1.heap.size,0,none⟩ (C9 I9));have aL:=Dl 5 cT bL (by simp) Q4;have aY:=I4 cT cX (by omega);have aQ:=I4 cT cY (by omega);have aZ:=I4 cT cZ (by omega);have bA:=I4 cT dB (by omega);have iT:=Z9 cT iS (by omega);have dC:=Ck 5 bL (by simp);rw[cS]at dC;have aU:I9.length=5:=Q4;go_wp2_with fail;rw[←cS,←cT];clear dC aU;obtain⟨p5,iG⟩:=H8 (W1.heap.size);rw[←iG]at aL bM bN bO bP fX;try rw[←iG]
 have iE:w.heap.size+4≤V4.heap.size:=by have hz:=z1;rw[cT,cS];first | (simp;omega) | (simp[World.setCell];omega)
 clear cS cT iG eE eF eG eH B1 z1 cX cY cZ dB bL iS;have S6:=Eo V4;refine Dm (fun W=>Bk W (w.heap.size+1) 140 (C9 p.row)∧Bk W (p5) 138 (C9 I9)) ?_;refine Cf (A:=?kE) [1,3,4] ⟨(aQ.drew),(aL.drew)⟩ (fun W hW=>?jI) ?kF;case jI=>
  have f1:=Bk.row64 (n:=5) (hW.2) (Q4);have f3:=Bk.row64 (n:=20) (hW.1) (hp.row);exact Dd
 refine J2 [zv 0 13 (H7 E4.row),zv 2 15 (H7 (Pl (M5 E4 I9))),zv 5 18 (H7 (Pl (M5 p I9))),za 6 8 177 (C9 (I3 320)),za 7 9 177 (C9 (I3 320))] (by kernel_rfl) (fun W hW=>⟨(aQ.drew.bl hW),(aL.drew.bl hW)⟩) ?fY ?fZ ?gD;case fY=>exact Jz
 case fZ=>
  refine (N7 ⟨?iH,(N7 ⟨?iI,(N7 ⟨?iJ,(N7 ⟨?iK,(N7 ⟨?iL,Ik⟩)⟩)⟩)⟩)⟩);case iH=>
   exact Qj fun W=>Oo W
  case iI=>exact Hx fun W=>Xl E4 I9 Bc Q4 W
  case iJ=>exact Yz fun W=>Xl p I9 hp Q4 W
  case iK=>exact M8 rfl rfl (fun ρ W=>A0f W ρ _ _ _ _ _)
  case iL=>exact M8 rfl rfl (fun ρ W=>A0f W ρ _ _ _ _ _)
 case gD=>
 intro us W7 b8 hg cU gE;have dD:us 0=(H7 E4.row):=hg _ (M6 0 rfl);have iU:us 2=(H7 (Pl (M5 E4 I9))):=hg _ (M6 1 rfl);have dE:us 5=(H7 (Pl (M5 p I9))):=hg _ (M6 2 rfl);obtain⟨p9,fQ,eJ⟩:=hg _ (M6 3 rfl);have fQ:us 6=.pointer (some ⟨p9,0,none⟩):=fQ;have eK:=Ac (gE _ (M6 3 rfl) rfl) fQ;obtain⟨eL,aV,gF⟩:=hg _ (M6 4 rfl);have aV:us 7=.pointer (some ⟨eL,0,none⟩):=aV;have eM:=Ac (gE _ (M6 4 rfl) rfl) aV;have fR:=Ji (cU _ (M6 3 rfl) _ (M6 4 rfl) rfl rfl (by decide)) fQ aV;have dF:=J5 S6 b8;have gG:=Q8 aY eK.1;have gH:=Q8 aQ eK.1;have gI:=Q8 aZ eK.1;have gJ:=Q8 bA eK.1;have gK:=Q8 aL eK.1;have iV:=Nat.le_trans iE (Nat.le_trans S6.size eK.1);clear eK;have gL:=Q8 aY eM.1;have gM:=Q8 aQ eM.1;have gN:=Q8 aZ eM.1;have gO:=Q8 bA eM.1;have gP:=Q8 aL eM.1;have iW:=Nat.le_trans iE (Nat.le_trans S6.size eM.1);clear eM;refine Mu ?_;rw[dD,iU,dE,fQ,aV];clear hg cU gE dD iU dE fQ aV b8 S6;have B7:=J5 iT dF;have z7:=Nat.le_trans iE dF.size;have gQ:=aY.bl dF;have gR:=aQ.bl dF;have gS:=aZ.bl dF;have gT:=bA.bl dF;have gU:=aL.bl dF;clear dF iT iE aY aQ aZ bA aL;obtain⟨jJ,aM⟩:=H8 (E0 W7 ⟨p9,0,none⟩ (C9 (Pl (M5 E4 I9))));have dG:=Dl 320 aM eJ (by simp) (by rw[Q9 (Y7 Bc I9)];simp)
 have dH:=I4 aM gQ (by omega);have bQ:=I4 aM gR (by omega);have dI:=I4 aM gS (by omega);have dJ:=I4 aM gT (by omega);have bR:=I4 aM gU (by omega);have bS:=I4 aM gF (by omega);have iX:=Z9 aM B7 (by omega);have eN:=Ck 320 eJ (by simp);have eO:(Pl (M5 E4 I9)).length=320:=(show (Pl (M5 E4 I9)).length=320 from by rw[Q9 (Y7 Bc I9)];simp);refine U0 8 fun Q' hQ'=>?_;dsimp only[F8];go_wp2_with fail;rw[←aM];refine hQ' _ _ ⟨bQ,bR⟩ ?_;clear hQ' eN eO;have iY:=Gd aM z7;clear aM B7 z7 gQ gR gS gT gU eJ gF;obtain⟨dK,aN⟩:=H8 (E0 jJ ⟨eL,0,none⟩ (C9 (Pl (M5 p I9))));have bT:=Dl 320 aN bS (by simp) (by rw[Q9 (Y7 hp I9)];simp);have bU:=I4 aN dH (by omega);have bB:=I4 aN bQ (by omega);have bV:=I4 aN dI (by omega);have bX:=I4 aN dJ (by omega);have bC:=I4 aN bR (by omega);have bD:=I4 aN dG (by omega);have iZ:=Z9 aN iX (by omega);have eP:=Ck 320 bS (by simp);have eQ:(Pl (M5 p I9)).length=320:=(show (Pl (M5 p I9)).length=320 from by rw[Q9 (Y7 hp I9)];simp);refine U0 9 fun Q' hQ'=>?_;dsimp only[F8];go_wp2_with fail;rw[←aN];refine hQ' _ _ ⟨bB,bC⟩ ?_;clear hQ' eP eQ;have iM:=Gd aN iY;clear aN iX iY dH bQ dI dJ bR dG bS;refine Cu ?_
 obtain⟨jA,aF⟩:=H8 (dK.alloc (Obj.cells (C9 (I3 20)).toArray 140));have aP:dK.heap.size=dK.heap.size:=rfl;have aR:Bk jA (dK.heap.size) 140 (C9 (I3 20)):=by rw[aF,←aP];exact Bk.new dK _ _
 have bY:=Y3 aF bU;have bZ:=Y3 aF bB;have cA:=Y3 aF bV;have cB:=Y3 aF bX;have cC:=Y3 aF bC;have cD:=Y3 aF bD;have cE:=Y3 aF bT;have gV:=Jx aF iZ;have bE:=Y9 aP bU;have bF:=Y9 aP bB;have bG:=Y9 aP bV;have bH:=Y9 aP bX;have bI:=Y9 aP bC;have bJ:=Y9 aP bD;have bK:=Y9 aP bT;have eR:w.heap.size+4≤dK.heap.size:=by rw[←aP];exact Nat.le_trans iM (Nat.le_refl _)
 clear aP;obtain⟨jK,aI⟩:=H8 (E0 jA ⟨dK.heap.size,0,none⟩ (C9 (O9 (M5 E4 I9) 0).row));have aS:=Dl 20 aI aR (by simp) (((Y7 Bc I9).at 0).row);have cF:=I4 aI bY (by omega);have cG:=I4 aI bZ (by omega);have cH:=I4 aI cA (by omega);have cI:=I4 aI cB (by omega);have cJ:=I4 aI cC (by omega);have cK:=I4 aI cD (by omega);have cL:=I4 aI cE (by omega);have gW:=Z9 aI gV (by omega);have jL:=show I6 _ ⟨_,0,none⟩ 20=some (C9 (O9 (M5 E4 I9) 0).row) from Bk.plAt (i:=0) (bD) (Y7 Bc I9) (by simp;try omega);have cM:=Ck 20 aR (by simp);rw[aF]at cM;have aU:(O9 (M5 E4 I9) 0).row.length=20:=((Y7 Bc I9).at 0).row;go_wp2_with fail;rw[←aF,←aI];clear jL cM aU;obtain⟨fS,eS⟩:=H8 (dK.heap.size);rw[←eS]at aS bE bF bG bH bI bJ bK eR;try rw[←eS]
 have gX:w.heap.size+4≤jK.heap.size:=by have hz:=iM;rw[aI,aF];first | (simp;omega) | (simp[World.setCell];omega)
 clear aF aI eS bU bB bV bX bC bD bT iZ iM bY bZ cA cB cC cD cE aR gV;go_loopw [11] (fun x11 wr=>∃m:Nat,0≤m∧m≤64∧x11=.int .i64 (63-(m:Int))∧Bk wr (w.heap.size) 23 (c8 n)∧Bk wr (w.heap.size+1) 140 (C9 p.row)∧Bk wr (w.heap.size+2) 23 (c8 mm)∧Bk wr (w.heap.size+3) 140 (C9 (I3 20))∧Bk wr (p5) 138 (C9 I9)∧Bk wr (p9) 177 (C9 (Pl (M5 E4 I9)))∧Bk wr (eL) 177 (C9 (Pl (M5 p I9)))∧Bk wr (fS) 140 (C9 (Aw n p mm m).row)∧Below w.heap.size w wr∧w.heap.size+4≤wr.heap.size) (fun x11 _=>(intOf x11+1).toNat)
 case atStart=>exact ⟨0,by omega,by omega,rfl,cF,cG,cH,cI,cJ,cK,cL,aS,gW,gX⟩
 case round=>
  clear gW gX cF cG cH cI cJ cK cL aS;obtain⟨m,kG,hm,rfl,aB,aO,aC,aD,aE,aG,aH,aA,dL,cV⟩:=hrel;by_cases hltm:m<64
  ·
   obtain⟨s,hs⟩:=H8 (63-m);have es:63-(m:Int)=(s:Int):=by omega
   have jM:s<64:=by omega
   have hd:decide (0≤(s:Int))=true:=decide_eq_true (by omega);rw[es];have HM:Hid (Aw n p mm (m+1)=T6 (T6 (Bn 4 (Aw n p mm m)) (O9 (M5 E4 I9) (dg n s)) I9) (O9 (M5 p I9) (dg mm s)) I9):=Lib.hid (by rw[hs];rfl);have ES:=Lib.hid es;clear hs es;have jN:=A6b n s;have jO:=A6b mm s;go_wp2_with fail;go_loopw [25] (fun x25 wr=>∃q:Nat,0≤q∧q≤4∧x25=.int .i64 (q:Int)∧Bk wr (w.heap.size) 23 (c8 n)∧Bk wr (w.heap.size+1) 140 (C9 p.row)∧Bk wr (w.heap.size+2) 23 (c8 mm)∧Bk wr (w.heap.size+3) 140 (C9 (I3 20))∧Bk wr (p5) 138 (C9 I9)∧Bk wr (p9) 177 (C9 (Pl (M5 E4 I9)))∧Bk wr (eL) 177 (C9 (Pl (M5 p I9)))∧Bk wr (fS) 140 (C9 (Bn q (Aw n p mm m)).row)∧Below w.heap.size w wr∧w.heap.size+4≤wr.heap.size) (fun x25 _=>4-(intOf x25).toNat)
   case atStart=>exact ⟨0,by omega,by omega,rfl,aB,aO,aC,aD,aE,aG,aH,aA,dL,cV⟩
   case round=>
    clear dL cV aB aO aC aD aE aG aH aA;obtain⟨q,kH,hq,rfl,aB,aO,aC,aD,aE,aG,aH,aA,dL,cV⟩:=hrel;by_cases hltq:q<4
    ·
     have kI:decide ((q:Int)<4)=true:=decide_eq_true (by omega);have jP:=Bk.row64 (n:=20) (aA) ((Da (Dg n p mm m) q).row);go_wp2_with fail;clear jP;refine (Nz (Bn q (Aw n p mm m)) (Da (Dg n p mm m) q) wr).mono ?_;rintro e jQ ⟨rfl,cN⟩;have jB:=J5 dL cN;have jC:=Nat.le_trans cV cN.size;have dM:=aB.bl cN;have dN:=aO.bl cN;have dO:=aC.bl cN;have dP:=aD.bl cN;have dQ:=aE.bl cN;have dR:=aG.bl cN;have dS:=aH.bl cN;have aW:=aA.bl cN;clear cN dL cV aB aO aC aD aE aG aH aA;obtain⟨jR,aJ⟩:=H8 (E0 jQ ⟨fS,0,none⟩ (C9 (Ic (Bn q (Aw n p mm m))).row));have cW:Bk jR (fS) 140 (C9 (Ic (Bn q (Aw n p mm m))).row):=by rw[aJ];exact Bk.put64 (aW) ((Da (Dg n p mm m) q).row) ((Fo (Bn q (Aw n p mm m))).row)
     have eT:=I4 aJ dM (by omega);have eU:=I4 aJ dN (by omega);have eV:=I4 aJ dO (by omega);have eW:=I4 aJ dP (by omega);have eX:=I4 aJ dQ (by omega);have eY:=I4 aJ dR (by omega);have eZ:=I4 aJ dS (by omega);have iN:=Z9 aJ jB (by omega);have fD:=Ck 20 aW ((Da (Dg n p mm m) q).row);have aU:(Ic (Bn q (Aw n p mm m))).row.length=20:=(Fo (Bn q (Aw n p mm m))).row;go_wp2_with fail;rw[←aJ];clear fD aU;have iO:=Gd aJ jC;clear aJ dM dN dO dP dQ dR dS aW jB jC;go_roundw;case rel=>exact ⟨q+1,by omega,by omega,by go_num,eT,eU,eV,eW,eX,eY,eZ,cW,iN,iO⟩
     case measure=>simp[intOf];omega
    ·
     obtain rfl:q=4:=by omega
     have e4:((4:Nat):Int)=4:=rfl;rw[e4];clear e4;go_wp2_with fail;have jD:=Eo wr;refine Dm (fun W=>Bk W (w.heap.size) 23 (c8 n)∧Bk W (w.heap.size+2) 23 (c8 mm)∧Bk W (p5) 138 (C9 I9)) ?_;refine Cf (A:=?jS) [1,2,6,8,9,13] ⟨(aB.drew),(aC.drew),(aE.drew)⟩ (fun W hW=>?iP) ?jT;case iP=>have f1:=Bk.row8 (n:=32) (hW.1) (hn);have f6:=Bk.row64 (n:=5) (hW.2.2) (Q4);have f8:=Bk.row8 (n:=32) (hW.2.1) (hmm);exact Dd
     refine J2 [zv 0 30 (H7 (Bn 4 (Aw n p mm m)).row),zv 3 33 (.int .u8 ((dg n s:Nat):Int)),zv 4 34 (.pointer (some ⟨p9,(dg n s)*20,none⟩)),zv 5 35 (H7 (O9 (M5 E4 I9) (dg n s)).row),zv 7 37 (H7 (T6 (Bn 4 (Aw n p mm m)) (O9 (M5 E4 I9) (dg n s)) I9).row),zv 10 40 (.int .u8 ((dg mm s:Nat):Int)),zv 11 41 (.pointer (some ⟨eL,(dg mm s)*20,none⟩)),zv 12 42 (H7 (O9 (M5 p I9) (dg mm s)).row),zv 14 44 (H7 (T6 (T6 (Bn 4 (Aw n p mm m)) (O9 (M5 E4 I9) (dg n s)) I9) (O9 (M5 p I9) (dg mm s)) I9).row)] (by kernel_rfl) (fun W hW=>⟨(aB.drew.bl hW),(aC.drew.bl hW),(aE.drew.bl hW)⟩) ?fE ?fF ?fG;case fE=>exact Jz
     case fF=>
      refine (N7 ⟨?gY,(N7 ⟨?gZ,(N7 ⟨?hE,(N7 ⟨?hF,(N7 ⟨?hG,(N7 ⟨?fH,(N7 ⟨?fI,(N7 ⟨?fJ,(N7 ⟨?fK,Ik⟩)⟩)⟩)⟩)⟩)⟩)⟩)⟩)⟩);case gY=>
       intro o ho us W hW hp Q' hQ';obtain rfl:=Option.some.inj ho;clear hp ho;rw[C8]at hQ' ⊢;dsimp only[F8,I2,List.foldl,zv,za]at hQ' ⊢;simp only[Bu];have f0:=Bk.row64 (n:=20) (aA.drew.bl hW) ((Da (Dg n p mm m) 4).row);go_wp2_with fail;exact Cm (hQ' _ _ (Below.refl _ _) rfl nofun)
      case gZ=>exact Qj fun W=>Ql n hn s (by omega) W
      case hE=>intro o ho us W hW hp Q' hQ';obtain rfl:=Option.some.inj ho;have dT:us 3=(.int .u8 ((dg n s:Nat):Int)):=hp 1 _ rfl (by kernel_rfl);clear hp ho;rw[C8]at hQ' ⊢;dsimp only[F8,I2,List.foldl,zv,za]at hQ' ⊢;simp only[Bu];rw[dT]at hQ' ⊢;clear dT;go_wp2_with fail;exact Cm (hQ' _ _ (Below.refl _ _) rfl nofun)
      case hF=>intro o ho us W hW hp Q' hQ';obtain rfl:=Option.some.inj ho;have hJ:us 4=(.pointer (some ⟨p9,(dg n s)*20,none⟩)):=hp 2 _ rfl (by kernel_rfl);clear hp ho;rw[C8]at hQ' ⊢;dsimp only[F8,I2,List.foldl,zv,za]at hQ' ⊢;simp only[Bu];rw[hJ]at hQ' ⊢;clear hJ;have f5:=show I6 _ ⟨_,(dg n s)*20,none⟩ 20=some (C9 (O9 (M5 E4 I9) (dg n s)).row) from Bk.plAt (i:=(dg n s)) (aG.drew.bl hW) (Y7 Bc I9) (by simp;try omega);go_wp2_with fail;exact Cm (hQ' _ _ (Below.refl _ _) rfl nofun)
      case hG=>intro o ho us W hW hp Q' hQ';obtain rfl:=Option.some.inj ho;have dD:us 0=(H7 (Bn 4 (Aw n p mm m)).row):=hp 0 _ rfl (by kernel_rfl);have dT:us 3=(.int .u8 ((dg n s:Nat):Int)):=hp 1 _ rfl (by kernel_rfl);have dE:us 5=(H7 (O9 (M5 E4 I9) (dg n s)).row):=hp 3 _ rfl (by kernel_rfl);clear hp ho;rw[C8]at hQ' ⊢;dsimp only[F8,I2,List.foldl,zv,za]at hQ' ⊢;simp only[Bu];rw[dD,dT,dE]at hQ' ⊢;clear dD dT dE;go_wp2_with fail;refine (Ix (Bn 4 (Aw n p mm m)) (O9 (M5 E4 I9) (dg n s)) I9 (Da (Dg n p mm m) 4) ((Y7 Bc I9).at (dg n s)) Q4 W).mono ?_;rintro e W2 ⟨rfl,b2⟩;go_wp2_with fail;exact Cm (hQ' _ _ b2 rfl nofun)
      case fH=>intro o ho us W hW hp Q' hQ';obtain rfl:=Option.some.inj ho;have aV:us 7=(H7 (T6 (Bn 4 (Aw n p mm m)) (O9 (M5 E4 I9) (dg n s)) I9).row):=hp 4 _ rfl (by kernel_rfl);clear hp ho;rw[C8]at hQ' ⊢;dsimp only[F8,I2,List.foldl,zv,za]at hQ' ⊢;simp only[Bu];rw[aV]at hQ' ⊢;clear aV;go_wp2_with fail;refine (Ql mm hmm s (by omega) W).mono ?_;rintro e W2 ⟨rfl,b2⟩;go_wp2_with fail;exact Cm (hQ' _ _ b2 rfl nofun)
      case fI=>intro o ho us W hW hp Q' hQ';obtain rfl:=Option.some.inj ho;have aT:us 10=(.int .u8 ((dg mm s:Nat):Int)):=hp 5 _ rfl (by kernel_rfl);clear hp ho;rw[C8]at hQ' ⊢;dsimp only[F8,I2,List.foldl,zv,za]at hQ' ⊢;simp only[Bu];rw[aT]at hQ' ⊢;clear aT;go_wp2_with fail;exact Cm (hQ' _ _ (Below.refl _ _) rfl nofun)
      case fJ=>intro o ho us W hW hp Q' hQ';obtain rfl:=Option.some.inj ho;have cO:us 11=(.pointer (some ⟨eL,(dg mm s)*20,none⟩)):=hp 6 _ rfl (by kernel_rfl);clear hp ho;rw[C8]at hQ' ⊢;dsimp only[F8,I2,List.foldl,zv,za]at hQ' ⊢;simp only[Bu];rw[cO]at hQ' ⊢;clear cO;have kJ:=show I6 _ ⟨_,(dg mm s)*20,none⟩ 20=some (C9 (O9 (M5 p I9) (dg mm s)).row) from Bk.plAt (i:=(dg mm s)) (aH.drew.bl hW) (Y7 hp I9) (by simp;try omega);go_wp2_with fail;exact Cm (hQ' _ _ (Below.refl _ _) rfl nofun)
      case fK=>intro o ho us W hW hp Q' hQ';obtain rfl:=Option.some.inj ho;have aV:us 7=(H7 (T6 (Bn 4 (Aw n p mm m)) (O9 (M5 E4 I9) (dg n s)) I9).row):=hp 4 _ rfl (by kernel_rfl);have aT:us 10=(.int .u8 ((dg mm s:Nat):Int)):=hp 5 _ rfl (by kernel_rfl);have cP:us 12=(H7 (O9 (M5 p I9) (dg mm s)).row):=hp 7 _ rfl (by kernel_rfl);clear hp ho;rw[C8]at hQ' ⊢;dsimp only[F8,I2,List.foldl,zv,za]at hQ' ⊢;simp only[Bu];rw[aV,aT,cP]at hQ' ⊢;clear aV aT cP;go_wp2_with fail;refine (Ix (T6 (Bn 4 (Aw n p mm m)) (O9 (M5 E4 I9) (dg n s)) I9) (O9 (M5 p I9) (dg mm s)) I9 (Bd (Bn 4 (Aw n p mm m)) (O9 (M5 E4 I9) (dg n s)) I9) ((Y7 hp I9).at (dg mm s)) Q4 W).mono ?_;rintro e W2 ⟨rfl,b2⟩;go_wp2_with fail;exact Cm (hQ' _ _ b2 rfl nofun)
     case fG=>
     intro us jU jE hg cU gE;have dD:us 0=(H7 (Bn 4 (Aw n p mm m)).row):=hg _ (M6 0 rfl);have dT:us 3=(.int .u8 ((dg n s:Nat):Int)):=hg _ (M6 1 rfl);have hJ:us 4=(.pointer (some ⟨p9,(dg n s)*20,none⟩)):=hg _ (M6 2 rfl);have dE:us 5=(H7 (O9 (M5 E4 I9) (dg n s)).row):=hg _ (M6 3 rfl);have aV:us 7=(H7 (T6 (Bn 4 (Aw n p mm m)) (O9 (M5 E4 I9) (dg n s)) I9).row):=hg _ (M6 4 rfl);have aT:us 10=(.int .u8 ((dg mm s:Nat):Int)):=hg _ (M6 5 rfl);have cO:us 11=(.pointer (some ⟨eL,(dg mm s)*20,none⟩)):=hg _ (M6 6 rfl);have cP:us 12=(H7 (O9 (M5 p I9) (dg mm s)).row):=hg _ (M6 7 rfl);have hY:us 14=(H7 (T6 (T6 (Bn 4 (Aw n p mm m)) (O9 (M5 E4 I9) (dg n s)) I9) (O9 (M5 p I9) (dg mm s)) I9).row):=hg _ (M6 8 rfl);have cQ:=J5 jD jE;refine Mu ?_;rw[dD,dT,hJ,dE,aV,aT,cO,cP,hY];clear hg cU gE dD dT hJ dE aV aT cO cP hY jE jD;have jF:=J5 dL cQ;have jG:=Nat.le_trans cV cQ.size;have dU:=aB.bl cQ;have dV:=aO.bl cQ;have dW:=aC.bl cQ;have dX:=aD.bl cQ;have dY:=aE.bl cQ;have dZ:=aG.bl cQ;have eA:=aH.bl cQ;have aX:=aA.bl cQ;clear cQ dL cV aB aO aC aD aE aG aH aA;obtain⟨jV,aK⟩:=H8 (E0 jU ⟨fS,0,none⟩ (C9 (T6 (T6 (Bn 4 (Aw n p mm m)) (O9 (M5 E4 I9) (dg n s)) I9) (O9 (M5 p I9) (dg mm s)) I9).row))
     have fL:Bk jV (fS) 140 (C9 (T6 (T6 (Bn 4 (Aw n p mm m)) (O9 (M5 E4 I9) (dg n s)) I9) (O9 (M5 p I9) (dg mm s)) I9).row):=by rw[aK];exact Bk.put64 (aX) ((Da (Dg n p mm m) 4).row) ((Bd (T6 (Bn 4 (Aw n p mm m)) (O9 (M5 E4 I9) (dg n s)) I9) (O9 (M5 p I9) (dg mm s)) I9).row)
     have eB:=I4 aK dU (by omega);have iA:=I4 aK dV (by omega);have eC:=I4 aK dW (by omega);have iB:=I4 aK dX (by omega);have eD:=I4 aK dY (by omega);have iC:=I4 aK dZ (by omega);have iD:=I4 aK eA (by omega);have jW:=Z9 aK jF (by omega);have fM:=Ck 20 aX ((Da (Dg n p mm m) 4).row);have fN:(T6 (T6 (Bn 4 (Aw n p mm m)) (O9 (M5 E4 I9) (dg n s)) I9) (O9 (M5 p I9) (dg mm s)) I9).row.length=20:=(Bd (T6 (Bn 4 (Aw n p mm m)) (O9 (M5 E4 I9) (dg n s)) I9) (O9 (M5 p I9) (dg mm s)) I9).row;refine U0 15 fun Q' hQ'=>?_;dsimp only[F8];go_wp2_with fail;rw[←aK];refine hQ' _ _ ⟨eB,eC,eD⟩ ?_;clear hQ' fM fN;have jX:=Gd aK jG;clear aK jF jG dU dV dW dX dY dZ eA aX;refine Cu ?_;go_wp2_with fail;go_roundw;case rel=>exact ⟨m+1,by omega,by omega,by rw[←ES.out];all_goals (simp<;>omega),eB,iA,eC,iB,eD,iC,iD,(by rw[HM.out];exact fL),jW,jX⟩
     case measure=>have:=ES.out;simp[intOf]<;>omega
  ·
   obtain rfl:m=64:=by omega
   obtain⟨kK,cR⟩:=H8 (E0 wr ⟨w.heap.size+3,0,none⟩ (C9 (Aw n p mm 64).row));have fO:=Dl 20 cR aD (by simp) ((Dg n p mm 64).row);have iQ:=Z9 cR dL (by omega);have jY:=Bk.row64 (n:=20) (aA) ((Dg n p mm 64).row);have fP:=Ck 20 aD (by simp);have aU:(Aw n p mm 64).row.length=20:=(Dg n p mm 64).row;go_wp2_with fail;rw[←cR];clear jY fP aU;have jZ:=Gd cR cV;clear cR cV;have iR:(Aw n p mm 64).row.length=20:=(Dg n p mm 64).row;refine bodyPost_ret (E5 rfl _ _ _ _ _ _ rfl fO X3 rfl (by simp[Bt,iR])) rfl ⟨rfl,iQ⟩
theorem D5i (x y:UInt8):Op.intArith .sub .u8 (n8 x) (n8 y)=pure (.int .u8 (n8 (x-y))):=by
 unfold Op.intArith n8;have hx:=lt8 x;have hy:=lt8 y;have e:IntKind.u8.wrap ((x.toNat:Int)-(y.toNat:Int))=(((256-y.toNat+x.toNat) % 256:Nat):Int):=by
  simp only[IntKind.wrap,IntKind.bits,IntKind.signed,Bool.false_and,Bool.false_eq_true,if_false];omega
 rw[e,UInt8.toNat_sub]
@[go_sem ↓ high] theorem D9j (x : UInt8) : Op.intArith .sub .u8 (n8 x) 97 = pure (.int .u8 (n8 (x - 97))) := D5i x 97
@[go_sem ↓ high] theorem D9i (x : UInt8) : Op.intArith .sub .u8 (n8 x) 48 = pure (.int .u8 (n8 (x - 48))) := D5i x 48
@[go_sem ↓ high] theorem D8t (x : UInt8) : Op.intArith .add .u8 (n8 x) 10 = pure (.int .u8 (n8 (x + 10))) := E0b x 10
def Py (c:UInt8):UInt8:=if 97≤c.toNat then c-97+10 else c-48
theorem Xg (c:UInt8) (w:World):Calls Tryz.prog 147 #[.int .u8 (n8 c)] w fun e w'=>e=.returned (.int .u8 (n8 (Py c)))∧Below w.heap.size w w':=by
 by_cases h:97≤c.toNat
 ·have h1:97≤n8 c:=by unfold n8;omega
  have HN:Hid (Py c=c-97+10):=Lib.hid (if_pos h);clear h;go_enter Tryz.func147,Tryz.ntmps147;go_wp2_with fail;go_ret;exact ⟨by rw[HN.out];rfl,Below.refl _ _⟩
 ·have h1:n8 c<97:=by unfold n8;omega
  have HN:Hid (Py c=c-48):=Lib.hid (if_neg h);clear h;go_enter Tryz.func147,Tryz.ntmps147;go_wp2_with fail;go_ret;exact ⟨by rw[HN.out];rfl,Below.refl _ _⟩
noncomputable def Vz:ByteArray:=match Tryz.f146.body with
 | some (.seq _ (.seq (.region _ ops _) _))=>(match ops[0]? with
  | some o=>(match o.op with | .assign (.const (.string b))=>b | _=>⟨#[]⟩)
  | none=>⟨#[]⟩)
 | _=>⟨#[]⟩
noncomputable def T5:List UInt8:=Vz.data.toList
theorem Zh:T5.length=4096:=by kernel_rfl
theorem A6x : Tryz.f146.body = some (Code.seq (Code.region 0 #[{ dst := some 0, op := .assign (.const (.string ⟨#[]⟩)), type := 9, pos := "curve.go:119", after := #[], guard := none }] false)
 (Code.seq (Code.region 1 #[{ dst := some 0, op := .assign (.const (.string Vz)), type := 9, pos := "curve.go:120", after := #[], guard := none }] false) Code.ret)) := by kernel_rfl
theorem B8c:Value.string Vz=S8 T5:=rfl
attribute [irreducible] Vz T5
theorem B2c (w:World):Calls Tryz.prog 146 #[] w fun e w'=>e=.returned (S8 T5)∧Below w.heap.size w w':=by
 refine calls_of_wp Tryz.func146 A6x ?_;simp only[Tryz.ntmps146,List.size_toArray,List.length_cons,List.length_nil,Nat.reduceAdd,Nat.reduceSub,Array.replicate_succ,
  Array.replicate_zero,List.push_toArray,List.append_toArray,List.nil_append,List.cons_append]
 have HS:=Lib.hid B8c;go_wp2_with fail;go_ret;exact ⟨by rw[←HS.out];rfl,Below.refl _ _⟩
def C5q (w:World) (raw:Result Next):Value→Value→Result Next
 | .string s,.int _ i=>if 0≤i∧i<s.data.toList.length then .ok (.value (.int .u8 (n8 (g8 s.data.toList i.toNat)))) w else raw
 | _,_=>raw
@[go_sem] theorem D9d (w : World) (raw : Result Next) (l : List UInt8) (k : IntKind) (i : Int) : C5q w raw (S8 l) (.int k i) = if 0 ≤ i ∧ i < l.length then .ok (.value (.int .u8 (n8 (g8 l i.toNat)))) w else raw := rfl
@[go_sem ↓ high] theorem C9p (w : World) (ρ : Operand → Value) (dst : Option Tmp) (ty : TypeId) (pos : String) (after : Array Edge) (guard : Option (Nat × Bool)) (x ix : Operand) :
 (execOp ρ { dst,op:=.index 9 x ix,type:=ty,pos,after,guard }).run Tryz.prog w=C5q w (N8 Tryz.prog ρ { dst,op:=.index 9 x ix,type:=ty,pos,after,guard } w) (ρ x) (ρ ix):=by
 generalize hv:ρ x=v;generalize hz:ρ ix=z;unfold C5q;split
 ·rename_i s kk i
  split
  ·rename_i hc
   have hs:s.size=s.data.toList.length:=rfl;have hi:0≤i∧i<s.size:=by omega
   have e1:=run_index_string (P:=Tryz.prog) w 9 s kk i Tryz.underlying9;rw[dif_pos hi]at e1;simp only[execOp,hv,hz,Sem.run_bind,e1,Result.andThen_ok,Sem.run_pure];have e2:((s[i.toNat]'(by omega)).toNat:Int)=n8 (g8 s.data.toList i.toNat):=by
    have hl:i.toNat<s.data.toList.length:=by omega
    unfold g8 n8;rw[List.getD_eq_getElem?_getD,List.getElem?_eq_getElem hl];show ((s.data[i.toNat]'(by omega)).toNat:Int)=_;simp
   rw[e2]
  ·rfl
 ·rfl
theorem C1d:((Tryz.prog.info? 226).bind (·.zero))=some (A8 (z8 64)):=by kernel_rfl
@[go_sem ↓ high] theorem D1l:RA' 226 (c8 (z8 64)).toArray:=fun w ρ dst ty pos after guard=>Q0 w ρ dst ty pos after guard 226 (A8 (z8 64)) C1d
def H6 (l:List UInt8) (o:Nat):List UInt8:=(l.drop o).take 32
theorem Ia {l:List UInt8} (hl:l.length=64) (o:Nat) (ho:o≤32):(H6 l o).length=32:=by unfold H6;simp;omega
theorem Bk.xyAt {w:World} {g:Nat} {t:TypeId} {l:List UInt8} (K:Bk w g t (c8 l)) (hl:l.length=64) (o:Nat) (ho:o≤32):I6 w ⟨g,o,none⟩ 32=some (c8 (H6 l o)):=by
 unfold H6;rw[K.rowMid o 32 (by simp;omega)];simp[c8]
noncomputable def Cn (i k:Nat):UInt8:=Py (g8 T5 (128*i+2*k)) <<< 4 ||| Py (g8 T5 (128*i+2*k+1))
noncomputable def A9j (i:Nat):List UInt8:=Ie (Cn i) 64 64
noncomputable def Kl (i:Nat):Pn:=T8 (C6 (H6 (A9j i) 0)) (C6 (H6 (A9j i) 32))
theorem Lx (i:Nat):(Kl i).Ok:=U6 (F9 _) (F9 _)
theorem B6t {i:Nat} (h:i<32):(Y5 Kl 32 i).set i (T8 (C6 (H6 (Ie (Cn i) 64 64) 0)) (C6 (H6 (Ie (Cn i) 64 64) 32)))=Y5 Kl 32 (i+1):=Sg h rfl
noncomputable def Kt:List Pn:=Y5 Kl 32 32
theorem Ip:Hk Kt:=Aj Lx 32 32
@[simp, go_sem] theorem A5u : Kt.length = 32 := Uz _ _ _
theorem C0r {i:Nat} (hi:i<32):O9 Kt i=Kl i:=by unfold Kt;rw[Wc hi,if_pos hi]
theorem A8u (w:World):Calls Tryz.prog 126 #[] w fun e w'=>e=.returned (H7 (Pl Kt))∧Below w.heap.size w w':=by
 obtain⟨W0,cN⟩:=H8 ((w.alloc (Obj.cells (C9 (I3 640)).toArray 205)));have hL:W0=M2 w [(205,(C9 (I3 640)))]:=cN;have B0:=Jc hL;have bJ:=Jy hL rfl;have z0:=Vp 1 hL rfl;have cW:=SL' 1 hL rfl;clear hL;obtain⟨V1,bH⟩:=H8 (W0.alloc (Obj.cells (C9 (I3 640)).toArray 205));have cX:W0.heap.size=w.heap.size+1:=cW;have aJ:Bk V1 (w.heap.size+1) 205 (C9 (I3 640)):=by rw[bH,←cX];exact Bk.new W0 _ _
 have aS:=Y3 bH bJ;have cY:=Jx bH B0;clear cX;go_enter Tryz.func126,Tryz.ntmps126;go_wp2_with fail;rw[←cN,←bH];have cZ:=ZA' bH z0;clear cN bH cW bJ B0 z0;rw[←C5r Kl]at aJ;go_wp2_with fail;refine (B2c V1).mono ?_;rintro e W2 ⟨rfl,b3⟩;have B2:=J5 cY b3;have z2:=Nat.le_trans cZ b3.size;have bK:=aS.bl b3;have bL:=aJ.bl b3;clear b3 cY cZ aS aJ;go_wp2_with fail;go_loopw [8] (fun x8 wr=>∃i:Nat,0≤i∧i≤32∧x8=.int .i64 (i:Int)∧Bk wr (w.heap.size) 205 (C9 (I3 640))∧Bk wr (w.heap.size+1) 205 (C9 (Pl (Y5 Kl 32 i)))∧Below w.heap.size w wr∧w.heap.size+1≤wr.heap.size) (fun x8 _=>32-(intOf x8).toNat)
 case atStart=>exact ⟨0,by omega,by omega,rfl,bK,bL,B2,z2⟩
 case round=>
  clear B2 z2 bK bL;obtain⟨i,eF,hi,rfl,aB,aC,aX,aP⟩:=hrel;by_cases hlti:i<32
  ·
   have eG:decide ((i:Int)<32)=true:=decide_eq_true (by omega);obtain⟨V4,aY⟩:=H8 (wr.alloc (Obj.cells (c8 (z8 64)).toArray 226));have bM:wr.heap.size=wr.heap.size:=rfl;have aH:Bk V4 (wr.heap.size) 226 (c8 (z8 64)):=by rw[aY,←bM];exact Bk.new wr _ _
   have aT:=Y3 aY aB;have aU:=Y3 aY aC;have dB:=Jx aY aX;have aK:=Y9 bM aB;have aL:=Y9 bM aC;have bN:w.heap.size+1≤wr.heap.size:=by rw[←bM];exact Nat.le_trans aP (Nat.le_refl _)
   clear bM;go_wp2_with fail;rw[←aY];obtain⟨p5,cO⟩:=H8 (wr.heap.size);rw[←cO]at aH aK aL bN;try rw[←cO]
   have dC:=ZA' aY aP;clear aY cO aP;rw[←Tf (f:=Cn i)]at aH;go_wp2_with fail;go_loopw [11] (fun x11 wr=>∃k:Nat,0≤k∧k≤64∧x11=.int .i64 (k:Int)∧Bk wr (w.heap.size) 205 (C9 (I3 640))∧Bk wr (w.heap.size+1) 205 (C9 (Pl (Y5 Kl 32 i)))∧Bk wr (p5) 226 (c8 (Ie (Cn i) 64 k))∧Below w.heap.size w wr∧w.heap.size+1≤wr.heap.size) (fun x11 _=>64-(intOf x11).toNat)
   case atStart=>exact ⟨0,by omega,by omega,rfl,aT,aU,aH,dB,dC⟩
   case round=>
    clear dB dC aT aU aH;obtain⟨k,eH,hk,rfl,aB,aC,aD,aX,aP⟩:=hrel;by_cases hltk:k<64
    ·
     have eI:decide ((k:Int)<64)=true:=decide_eq_true (by omega);obtain⟨aA,bO⟩:=H8 (128*i+2*k);have eJ:128*(i:Int)+2*(k:Int)=(aA:Int):=by omega
     have dN:((aA:Int)+1).toNat=aA+1:=by omega
     have dO:=Zh;have eK:aA+1<T5.length:=by omega
     have dP:(aA:Int)+1<(T5.length:Int):=by omega
     have dD:(aA:Int)<(T5.length:Int):=by omega
     obtain⟨qq,dQ⟩:=H8 (k / 32);obtain⟨rr,dR⟩:=H8 (k % 32);have eL:(k:Int) / 32=(qq:Int):=by omega
     have eM:(k:Int) % 32=(rr:Int):=by omega
     have dS:Int.tmod (k:Int) 32=(rr:Int):=by rw[Int.tmod_eq_emod_of_nonneg (by omega)];omega
     have dT:qq<2:=by omega
     have dU:rr<32:=by omega
     have dE:qq*32+rr=k:=by omega
     have dV:=Lib.hid dE;have HA:Hid (Cn i k=Py (g8 T5 aA) <<< 4 ||| Py (g8 T5 (aA+1))):=Lib.hid (by rw[bO];rfl);clear bO dQ dR dO dE;go_wp2_with fail;have S6:=Eo wr;refine Dm (fun W=>True) ?_;refine Cf (A:=?eN) [0,1,2,3,4,5,6,9,10,11,12,15] trivial (fun W hW=>?dW) ?eO;case dW=>exact Dd
     refine J2 [zv 7 26 (.int .u8 (n8 (Py (g8 T5 aA)))),zv 8 27 (.int .u8 (n8 (Py (g8 T5 aA) <<< 4))),zv 13 32 (.int .u8 (n8 (Py (g8 T5 (aA+1))))),zv 14 33 (.int .u8 (n8 (Py (g8 T5 aA) <<< 4 ||| Py (g8 T5 (aA+1))))),zv 16 35 (.pointer (some ⟨p5,qq*32+rr,none⟩))] (by kernel_rfl) (fun W hW=>trivial) ?bP ?bQ ?bR;case bP=>exact Jz
     case bQ=>
      refine (N7 ⟨?cP,(N7 ⟨?cQ,(N7 ⟨?bS,(N7 ⟨?bT,(N7 ⟨?bU,Ik⟩)⟩)⟩)⟩)⟩);case cP=>
       exact Qj fun W=>Xg (g8 T5 aA) W
      case cQ=>intro o ho us W hW hp Q' hQ';obtain rfl:=Option.some.inj ho;have aI:us 7=(.int .u8 (n8 (Py (g8 T5 aA)))):=hp 0 _ rfl (by kernel_rfl);clear hp ho;rw[C8]at hQ' ⊢;dsimp only[F8,I2,List.foldl,zv,za]at hQ' ⊢;simp only[Bu];rw[aI]at hQ' ⊢;clear aI;go_wp2_with fail;exact Cm (hQ' _ _ (Below.refl _ _) rfl nofun)
      case bS=>exact Hx fun W=>Xg (g8 T5 (aA+1)) W
      case bT=>intro o ho us W hW hp Q' hQ';obtain rfl:=Option.some.inj ho;have aM:us 8=(.int .u8 (n8 (Py (g8 T5 aA) <<< 4))):=hp 1 _ rfl (by kernel_rfl);have aE:us 13=(.int .u8 (n8 (Py (g8 T5 (aA+1))))):=hp 2 _ rfl (by kernel_rfl);clear hp ho;rw[C8]at hQ' ⊢;dsimp only[F8,I2,List.foldl,zv,za]at hQ' ⊢;simp only[Bu];rw[aM,aE]at hQ' ⊢;clear aM aE;go_wp2_with fail;exact Cm (hQ' _ _ (Below.refl _ _) rfl nofun)
      case bU=>intro o ho us W hW hp Q' hQ';obtain rfl:=Option.some.inj ho;have aI:us 7=(.int .u8 (n8 (Py (g8 T5 aA)))):=hp 0 _ rfl (by kernel_rfl);have aM:us 8=(.int .u8 (n8 (Py (g8 T5 aA) <<< 4))):=hp 1 _ rfl (by kernel_rfl);have aE:us 13=(.int .u8 (n8 (Py (g8 T5 (aA+1))))):=hp 2 _ rfl (by kernel_rfl);have aN:us 14=(.int .u8 (n8 (Py (g8 T5 aA) <<< 4 ||| Py (g8 T5 (aA+1))))):=hp 3 _ rfl (by kernel_rfl);clear hp ho;rw[C8]at hQ' ⊢;dsimp only[F8,I2,List.foldl,zv,za]at hQ' ⊢;simp only[Bu];rw[aI,aM,aE,aN]at hQ' ⊢;clear aI aM aE aN;go_wp2_with fail;exact Cm (hQ' _ _ (Below.refl _ _) rfl nofun)
     case bR=>
     intro us W7 b8 hg aZ cR;have aI:us 7=(.int .u8 (n8 (Py (g8 T5 aA)))):=hg _ (M6 0 rfl);have aM:us 8=(.int .u8 (n8 (Py (g8 T5 aA) <<< 4))):=hg _ (M6 1 rfl);have aE:us 13=(.int .u8 (n8 (Py (g8 T5 (aA+1))))):=hg _ (M6 2 rfl);have aN:us 14=(.int .u8 (n8 (Py (g8 T5 aA) <<< 4 ||| Py (g8 T5 (aA+1))))):=hg _ (M6 3 rfl);have bV:us 16=(.pointer (some ⟨p5,qq*32+rr,none⟩)):=hg _ (M6 4 rfl);have b9:=J5 S6 b8;refine Mu ?_;rw[aI,aM,aE,aN,bV];clear hg aZ cR aI aM aE aN bV b8 S6;have B7:=J5 aX b9;have z7:=Nat.le_trans aP b9.size;have bX:=aB.bl b9;have bY:=aC.bl b9;have aQ:=aD.bl b9;clear b9 aX aP aB aC aD;obtain⟨dF,aF⟩:=H8 (W7.setCell ⟨p5,qq*32+rr,none⟩ (.int .u8 (n8 (Py (g8 T5 aA) <<< 4 ||| Py (g8 T5 (aA+1))))));have bZ:Bk dF (p5) 226 (c8 ((Ie (Cn i) 64 k).set (qq*32+rr) (Py (g8 T5 aA) <<< 4 ||| Py (g8 T5 (aA+1))))):=by have:=aQ.set_ (qq*32+rr) (.int .u8 (n8 (Py (g8 T5 aA) <<< 4 ||| Py (g8 T5 (aA+1)))));rw[Ft]at this;rw[aF];exact this
     have cA:=KS' aF bX (by omega);have cB:=KS' aF bY (by omega);have dX:=BS' aF B7 (by omega);have cC:=(aQ).at_ (Ej (l:=(Ie (Cn i) 64 k)) (i:=qq*32+rr) (by have hh:(Ie (Cn i) 64 k).length=64:=(He (Cn i) 64 k);omega));have cD:=(aQ).frozen (qq*32+rr);refine U0 17 fun Q' hQ'=>?_;dsimp only[F8];go_wp2_with fail;rw[←aF];refine hQ' _ _ trivial ?_;clear hQ' cC cD;have dY:w.heap.size+1≤dF.heap.size:=by have hz:=z7;rw[aF];simp[World.setCell];omega
     clear aF B7 z7 bX bY aQ;refine Cu ?_;go_wp2_with fail;go_roundw;case rel=>exact ⟨k+1,by omega,by omega,by go_num,cA,cB,(by have h4:=bZ;rw[dV.out,A1l hltk HA.out.symm]at h4;exact h4),dX,dY⟩
     case measure=>simp[intOf];omega
    ·
     obtain rfl:k=64:=by omega
     have dG:((64:Nat):Int)=64:=rfl;rw[dG];clear dG;go_wp2_with fail;have dH:=Eo wr;refine Dm (fun W=>Bk W (p5) 226 (c8 (Ie (Cn i) 64 64))) ?_;refine Cf (A:=?dZ) [0,1,2,4,5] (aD.drew) (fun W hW=>?cS) ?eA;case cS=>have f2:=Bk.xyAt (hW) (He (Cn i) 64 64) 0 (by decide);have f5:=Bk.xyAt (hW) (He (Cn i) 64 64) 32 (by decide);exact Dd
     refine J2 [zv 3 40 (H7 (C6 (H6 (Ie (Cn i) 64 64) 0))),zv 6 43 (H7 (C6 (H6 (Ie (Cn i) 64 64) 32))),zv 7 44 (H7 (T8 (C6 (H6 (Ie (Cn i) 64 64) 0)) (C6 (H6 (Ie (Cn i) 64 64) 32))).row),zv 8 45 (.pointer (some ⟨w.heap.size+1,i*20,none⟩))] (by kernel_rfl) (fun W hW=>(aD.drew.bl hW)) ?bA ?bB ?bC;case bA=>exact Jz
     case bB=>
      refine (N7 ⟨?cE,(N7 ⟨?cF,(N7 ⟨?cG,(N7 ⟨?cH,Ik⟩)⟩)⟩)⟩);case cE=>
       exact Qj fun W=>Fy (H6 (Ie (Cn i) 64 64) 0) (Ia (He (Cn i) 64 64) 0 (by decide)) W
      case cF=>exact Hx fun W=>Fy (H6 (Ie (Cn i) 64 64) 32) (Ia (He (Cn i) 64 64) 32 (by decide)) W
      case cG=>exact A3u fun W=>Jl (C6 (H6 (Ie (Cn i) 64 64) 0)) (C6 (H6 (Ie (Cn i) 64 64) 32)) (F9 (H6 (Ie (Cn i) 64 64) 0)) (F9 (H6 (Ie (Cn i) 64 64) 32)) W
      case cH=>intro o ho us W hW hp Q' hQ';obtain rfl:=Option.some.inj ho;have cI:us 3=(H7 (C6 (H6 (Ie (Cn i) 64 64) 0))):=hp 0 _ rfl (by kernel_rfl);have cJ:us 6=(H7 (C6 (H6 (Ie (Cn i) 64 64) 32))):=hp 1 _ rfl (by kernel_rfl);have aI:us 7=(H7 (T8 (C6 (H6 (Ie (Cn i) 64 64) 0)) (C6 (H6 (Ie (Cn i) 64 64) 32))).row):=hp 2 _ rfl (by kernel_rfl);clear hp ho;rw[C8]at hQ' ⊢;dsimp only[F8,I2,List.foldl,zv,za]at hQ' ⊢;simp only[Bu];rw[cI,cJ,aI]at hQ' ⊢;clear cI cJ aI;go_wp2_with fail;exact Cm (hQ' _ _ (Below.refl _ _) rfl nofun)
     case bC=>
     intro us dI dJ hg aZ cR;have cI:us 3=(H7 (C6 (H6 (Ie (Cn i) 64 64) 0))):=hg _ (M6 0 rfl);have cJ:us 6=(H7 (C6 (H6 (Ie (Cn i) 64 64) 32))):=hg _ (M6 1 rfl);have aI:us 7=(H7 (T8 (C6 (H6 (Ie (Cn i) 64 64) 0)) (C6 (H6 (Ie (Cn i) 64 64) 32))).row):=hg _ (M6 2 rfl);have aM:us 8=(.pointer (some ⟨w.heap.size+1,i*20,none⟩)):=hg _ (M6 3 rfl);have bI:=J5 dH dJ;refine Mu ?_;rw[cI,cJ,aI,aM];clear hg aZ cR cI cJ aI aM dJ dH;have dK:=J5 aX bI;have dL:=Nat.le_trans aP bI.size;have aV:=aB.bl bI;have aO:=aC.bl bI;have aW:=aD.bl bI;clear bI aX aP aB aC aD;obtain⟨eB,aG⟩:=H8 (E0 dI ⟨w.heap.size+1,i*20,none⟩ (C9 (T8 (C6 (H6 (Ie (Cn i) 64 64) 0)) (C6 (H6 (Ie (Cn i) 64 64) 32))).row));have cK:Bk eB (w.heap.size+1) 205 (C9 (Pl ((Y5 Kl 32 i).set i (T8 (C6 (H6 (Ie (Cn i) 64 64) 0)) (C6 (H6 (Ie (Cn i) 64 64) 32)))))):=by rw[aG];exact Bk.plPut (i:=i) (aO) (Aj Lx 32 i) (by simp;try omega) (U6 (F9 (H6 (Ie (Cn i) 64 64) 0)) (F9 (H6 (Ie (Cn i) 64 64) 32)))
     have cL:=I4 aG aV (by omega);have cM:=I4 aG aW (by omega);have eC:=Z9 aG dK (by omega);have bD:P7 dI ⟨w.heap.size+1,i*20,none⟩ 20=true:=Bk.plCan (i:=i) (aO) (Aj Lx 32 i) (by simp;try omega);have bE:(T8 (C6 (H6 (Ie (Cn i) 64 64) 0)) (C6 (H6 (Ie (Cn i) 64 64) 32))).row.length=20:=(U6 (F9 (H6 (Ie (Cn i) 64 64) 0)) (F9 (H6 (Ie (Cn i) 64 64) 32))).row;refine U0 9 fun Q' hQ'=>?_;dsimp only[F8];go_wp2_with fail;rw[←aG];refine hQ' _ _ cM ?_;clear hQ' bD bE;have eD:=Gd aG dL;clear aG dK dL aV aO aW;refine Cu ?_;go_wp2_with fail;go_roundw;case rel=>exact ⟨i+1,by omega,by omega,by go_num,cL,(by have h1:=cK;rw[B6t hlti]at h1;exact h1),eC,eD⟩
     case measure=>simp[intOf];omega
  ·
   obtain rfl:i=32:=by omega
   have dM:((32:Nat):Int)=32:=rfl;rw[dM];clear dM;obtain⟨eP,aR⟩:=H8 (E0 wr ⟨w.heap.size,0,none⟩ (C9 (Pl (Y5 Kl 32 32))));have bF:=Dl 640 aR aB (by simp) (by rw[Q9 (Aj Lx 32 32)];simp);have cT:=Z9 aR aX (by omega);have eE:=Bk.row64 (n:=640) (aC) ((show (Pl (Y5 Kl 32 32)).length=640 from by rw[Q9 (Aj Lx 32 32)];simp));have bG:=Ck 640 aB (by simp);have cU:(Pl (Y5 Kl 32 32)).length=640:=(show (Pl (Y5 Kl 32 32)).length=640 from by rw[Q9 (Aj Lx 32 32)];simp);go_wp2_with fail;rw[←aR];clear eE bG cU;clear aR aP;have cV:(Pl (Y5 Kl 32 32)).length=640:=(show (Pl (Y5 Kl 32 32)).length=640 from by rw[Q9 (Aj Lx 32 32)];simp);refine bodyPost_ret (E5 rfl _ _ _ _ _ _ rfl bF Tryz.underlying205 rfl (by simp[Wo,cV])) rfl ⟨rfl,cT⟩
noncomputable def B9v (n:Nat) (w:World) (raw:Result Next) (v z:Value):Result Next:=match Vj v,z with
 | some l,.int _ i=>if l.length=n*20∧0≤i∧i<n then .ok (.value (H7 ((l.drop (i.toNat*20)).take 20))) w else raw
 | _,_=>raw
@[go_sem] theorem D8w (n : Nat) (w : World) (raw : Result Next) (ps : List Pn) (h : Hk ps) (hl : ps.length = n) (k : IntKind) (i : Nat) (hi : i < n) : B9v n w raw (H7 (Pl ps)) (.int k (i : Int)) = .ok (.value (H7 (O9 ps i).row)) w := by
 have h1:=Q9 h;have h2:=B5z i h (by omega);unfold B9v;rw[Ov];show (if (Pl ps).length=n*20∧0≤(i:Int)∧(i:Int)<n then Result.ok (.value (H7 (((Pl ps).drop ((i:Int).toNat*20)).take 20))) w else raw)=_;rw[if_pos ⟨by omega,by omega,by omega⟩,Int.toNat_natCast,h2];rfl
theorem B0i (w:World):(sizeOf 140).run Tryz.prog w=.ok 20 w:=by kernel_rfl
theorem B9y (xs:List UInt64) (o:Nat) (w:World):(part 140 (C9 xs).toArray o).run Tryz.prog w=.ok (H7 ((xs.drop o).take 20)) w:=by
 simp[part,isAgg,run_underlying X3,B0i,H7,C9,List.extract_eq_take_drop]
@[go_sem ↓ high] theorem C9v (w : World) (ρ : Operand → Value) (dst : Option Tmp) (ty : TypeId) (pos : String) (after : Array Edge) (guard : Option (Nat × Bool)) (x ix : Operand) :
 (execOp ρ { dst,op:=.index 205 x ix,type:=ty,pos,after,guard }).run Tryz.prog w=B9v 32 w (N8 Tryz.prog ρ { dst,op:=.index 205 x ix,type:=ty,pos,after,guard } w) (ρ x) (ρ ix):=by
 generalize hv:ρ x=v;generalize hz:ρ ix=z;unfold B9v;split
 ·rename_i l k i h1
  replace h1:=Gf h1;split
  ·rename_i hc
   obtain⟨h2,h3,h4⟩:=hc;subst h1;have h5:i<32:=by omega
   have h6:¬ 32≤i:=by omega
   have e1:(part 140 (C9 l).toArray (i.toNat*20)).run Tryz.prog w=.ok (H7 ((l.drop (i.toNat*20)).take 20)) w:=B9y l _ w;simp[execOp,hv,hz,H7,Instr.index,run_underlying Tryz.underlying205,asIntOf,h3,h4,h5,h6,B0i,e1]
  ·rfl
 ·rfl
def B3l (n:List UInt8) (i s:Nat):Bool:=g8 n i >>> UInt8.ofNat s &&& 1==1
noncomputable def Bm (n:List UInt8) (s:Nat) (r:Pn):Nat→Pn
 | 0=>r
 | i+1=>if B3l n i s then T6 (Bm n s r i) (Kl i) I9 else Bm n s r i
theorem Gz (n:List UInt8) (s:Nat) {r:Pn} (hr:r.Ok):∀i,(Bm n s r i).Ok
 | 0=>hr
 | i+1=>by
  unfold Bm;split
  ·exact Bd _ _ _
  ·exact Gz n s hr i
theorem A4z {n:List UInt8} {s:Nat} {r:Pn} {i:Nat} (hb:B3l n i s=true) (hi:i<32):Bm n s r (i+1)=T6 (Bm n s r i) (O9 Kt i) I9:=by
 rw[C0r hi];exact if_pos hb
theorem A8y {n:List UInt8} {s:Nat} {r:Pn} {i:Nat} (hb:B3l n i s=false):Bm n s r (i+1)=Bm n s r i:=if_neg (by rw[hb];decide)
noncomputable def Ae (n:List UInt8):Nat→Pn
 | 0=>D8 Bg
 | m+1=>Bm n (7-m) (Ic (Ae n m)) 32
theorem Fe (n:List UInt8):∀m,(Ae n m).Ok
 | 0=>J6 Dh
 | m+1=>Gz n _ (Fo _) 32
noncomputable def Ng (n:List UInt8):Pn:=Ae n 8
theorem Ph (n:List UInt8):(Ng n).Ok:=Fe n 8
theorem B3d (n:List UInt8) (hn:n.length=32) (w:World):Calls Tryz.prog 94 #[A8 n] w fun e w'=>e=.returned (H7 (Ng n).row)∧Below w.heap.size w w':=by
 have gU:=Ip;have gV:=A5u;obtain⟨W0,fI⟩:=H8 (((w.alloc (Obj.cells (c8 n).toArray 23)).alloc (Obj.cells (C9 (I3 20)).toArray 140)));have hL:W0=M2 w [(23,(c8 n)),(140,(C9 (I3 20)))]:=fI;have B0:=Jc hL;have eT:=Jy hL rfl;have eU:=Gs 1 hL rfl;have z0:=Vp 2 hL rfl;clear hL;go_enter Tryz.func94,Tryz.ntmps94;go_wp2_with fail;rw[←fI];clear fI;refine (Se W0).mono ?_;rintro e W1 ⟨rfl,b2⟩;have B1:=J5 B0 b2;have z1:=Nat.le_trans z0 b2.size;have dQ:=eT.bl b2;have dR:=eU.bl b2;clear b2 B0 z0 eT eU;obtain⟨V3,cP⟩:=H8 (W1.alloc (Obj.cells (C9 (I3 5)).toArray 138));have eV:W1.heap.size=W1.heap.size:=rfl;have bE:Bk V3 (W1.heap.size) 138 (C9 (I3 5)):=by rw[cP,←eV];exact Bk.new W1 _ _
 have cQ:=Y3 cP dQ;have cR:=Y3 cP dR;have fR:=Jx cP B1;have bF:=Y9 eV dQ;have bG:=Y9 eV dR;have eW:w.heap.size+2≤W1.heap.size:=by rw[←eV];exact Nat.le_trans z1 (Nat.le_refl _)
 clear eV;obtain⟨V4,dS⟩:=H8 (E0 V3 ⟨W1.heap.size,0,none⟩ (C9 I9));have bH:=Dl 5 dS bE (by simp) Q4;have cS:=I4 dS cQ (by omega);have cT:=I4 dS cR (by omega);have fS:=Z9 dS fR (by omega);have cU:=Ck 5 bE (by simp);rw[cP]at cU;have aC:I9.length=5:=Q4;go_wp2_with fail;rw[←cP,←dS];clear cU aC;obtain⟨p5,fJ⟩:=H8 (W1.heap.size);rw[←fJ]at bH bF bG eW;try rw[←fJ]
 have fT:w.heap.size+2≤V4.heap.size:=by have hz:=z1;rw[dS,cP];first | (simp;omega) | (simp[World.setCell];omega)
 clear cP dS fJ dQ dR B1 z1 cQ cR bE fR;refine (A8u V4).mono ?_;rintro e W6 ⟨rfl,b7⟩;have B6:=J5 fS b7;have z6:=Nat.le_trans fT b7.size;have dT:=cS.bl b7;have dU:=cT.bl b7;have dV:=bH.bl b7;clear b7 fS fT cS cT bH;obtain⟨V8,cM⟩:=H8 (W6.alloc (Obj.cells (C9 (I3 640)).toArray 205));have eQ:W6.heap.size=W6.heap.size:=rfl;have bI:Bk V8 (W6.heap.size) 205 (C9 (I3 640)):=by rw[cM,←eQ];exact Bk.new W6 _ _
 have cV:=Y3 cM dT;have cW:=Y3 cM dU;have cX:=Y3 cM dV;have fU:=Jx cM B6;have bJ:=Y9 eQ dT;have bK:=Y9 eQ dU;have bL:=Y9 eQ dV;have eX:w.heap.size+2≤W6.heap.size:=by rw[←eQ];exact Nat.le_trans z6 (Nat.le_refl _)
 clear eQ;obtain⟨V9,cY⟩:=H8 (E0 V8 ⟨W6.heap.size,0,none⟩ (C9 (Pl Kt)));have bM:=Dl 640 cY bI (by simp) (by rw[Q9 Ip];simp);have cZ:=I4 cY cV (by omega);have dB:=I4 cY cW (by omega);have dC:=I4 cY cX (by omega);have fV:=Z9 cY fU (by omega);have dD:=Ck 640 bI (by simp);rw[cM]at dD;have aC:(Pl Kt).length=640:=(show (Pl Kt).length=640 from by rw[Q9 Ip];simp);go_wp2_with fail;rw[←cM,←cY];clear dD aC;obtain⟨fW,dW⟩:=H8 (W6.heap.size);rw[←dW]at bM bJ bK bL eX;try rw[←dW]
 have fX:w.heap.size+2≤V9.heap.size:=by have hz:=z6;rw[cY,cM];first | (simp;omega) | (simp[World.setCell];omega)
 clear cM cY dW dT dU dV B6 z6 cV cW cX bI fU;refine (Gy Bg Dh V9).mono ?_;rintro e dE ⟨rfl,dX⟩;have fY:=J5 fV dX;have fK:=Nat.le_trans fX dX.size;have bN:=cZ.bl dX;have bO:=dB.bl dX;have bP:=dC.bl dX;have bQ:=bM.bl dX;clear dX fV fX cZ dB dC bM;obtain⟨fZ,aH⟩:=H8 (dE.alloc (Obj.cells (C9 (I3 20)).toArray 140));have aX:dE.heap.size=dE.heap.size:=rfl;have aY:Bk fZ (dE.heap.size) 140 (C9 (I3 20)):=by rw[aH,←aX];exact Bk.new dE _ _
 have bR:=Y3 aH bN;have bS:=Y3 aH bO;have bT:=Y3 aH bP;have bU:=Y3 aH bQ;have eY:=Jx aH fY;have bV:=Y9 aX bN;have bX:=Y9 aX bO;have bY:=Y9 aX bP;have bZ:=Y9 aX bQ;have eZ:w.heap.size+2≤dE.heap.size:=by rw[←aX];exact Nat.le_trans fK (Nat.le_refl _)
 clear aX;obtain⟨gM,aM⟩:=H8 (E0 fZ ⟨dE.heap.size,0,none⟩ (C9 (D8 Bg).row));have aZ:=Dl 20 aM aY (by simp) ((J6 Dh).row);have cA:=I4 aM bR (by omega);have cB:=I4 aM bS (by omega);have cC:=I4 aM bT (by omega);have cD:=I4 aM bU (by omega);have fD:=Z9 aM eY (by omega);have cE:=Ck 20 aY (by simp);rw[aH]at cE;have aC:(D8 Bg).row.length=20:=(J6 Dh).row;go_wp2_with fail;rw[←aH,←aM];clear cE aC;obtain⟨eR,dY⟩:=H8 (dE.heap.size);rw[←dY]at aZ bV bX bY bZ eZ;try rw[←dY]
 have fE:w.heap.size+2≤gM.heap.size:=by have hz:=fK;rw[aM,aH];first | (simp;omega) | (simp[World.setCell];omega)
 clear aH aM dY bN bO bP bQ fY fK bR bS bT bU aY eY;go_loopw [6] (fun x6 wr=>∃m:Nat,0≤m∧m≤8∧x6=.int .i64 (7-(m:Int))∧Bk wr (w.heap.size) 23 (c8 n)∧Bk wr (w.heap.size+1) 140 (C9 (I3 20))∧Bk wr (p5) 138 (C9 I9)∧Bk wr (fW) 205 (C9 (Pl Kt))∧Bk wr (eR) 140 (C9 (Ae n m).row)∧Below w.heap.size w wr∧w.heap.size+2≤wr.heap.size) (fun x6 _=>(intOf x6+1).toNat)
 case atStart=>exact ⟨0,by omega,by omega,rfl,cA,cB,cC,cD,aZ,fD,fE⟩
 case round=>
  clear fD fE cA cB cC cD aZ;obtain⟨m,gW,hm,rfl,aJ,aD,aK,aL,aE,eS,cL⟩:=hrel;by_cases hltm:m<8
  ·
   obtain⟨s,hs⟩:=H8 (7-m);have es:7-(m:Int)=(s:Int):=by omega
   have gN:s<8:=by omega
   have hd:decide (0≤(s:Int))=true:=decide_eq_true (by omega);rw[es];have HM:Hid (Ae n (m+1)=Bm n s (Ic (Ae n m)) 32):=Lib.hid (by rw[hs];rfl);have ES:=Lib.hid es;clear hs es;have gO:=Bk.row64 (n:=20) (aE) ((Fe n m).row);go_wp2_with fail;clear gO;refine (Nz (Ae n m) (Fe n m) wr).mono ?_;rintro e gP ⟨rfl,dF⟩;have gD:=J5 eS dF;have gE:=Nat.le_trans cL dF.size;have dG:=aJ.bl dF;have dH:=aD.bl dF;have dI:=aK.bl dF;have dJ:=aL.bl dF;have cF:=aE.bl dF;clear dF eS cL aJ aD aK aL aE;obtain⟨gQ,aI⟩:=H8 (E0 gP ⟨eR,0,none⟩ (C9 (Ic (Ae n m)).row));have cG:Bk gQ (eR) 140 (C9 (Ic (Ae n m)).row):=by rw[aI];exact Bk.put64 (cF) ((Fe n m).row) ((Fo (Ae n m)).row)
   have cH:=I4 aI dG (by omega);have cI:=I4 aI dH (by omega);have cJ:=I4 aI dI (by omega);have bA:=I4 aI dJ (by omega);have fF:=Z9 aI gD (by omega);have dZ:=Ck 20 cF ((Fe n m).row);have Mt:=Bk.row64 (n:=640) (bA) ((show (Pl Kt).length=640 from by rw[Q9 Ip];simp));rw[aI]at Mt;have aC:(Ic (Ae n m)).row.length=20:=(Fo (Ae n m)).row;go_wp2_with fail;rw[←aI];clear dZ Mt aC;have fG:=Gd aI gE;clear aI dG dH dI dJ cF gD gE;go_loopw [20] (fun x20 wr=>∃i:Nat,0≤i∧i≤32∧x20=.int .i64 (i:Int)∧Bk wr (w.heap.size) 23 (c8 n)∧Bk wr (w.heap.size+1) 140 (C9 (I3 20))∧Bk wr (p5) 138 (C9 I9)∧Bk wr (fW) 205 (C9 (Pl Kt))∧Bk wr (eR) 140 (C9 (Bm n s (Ic (Ae n m)) i).row)∧Below w.heap.size w wr∧w.heap.size+2≤wr.heap.size) (fun x20 _=>32-(intOf x20).toNat)
   case atStart=>exact ⟨0,by omega,by omega,rfl,cH,cI,cJ,bA,cG,fF,fG⟩
   case round=>
    clear fF fG cH cI cJ bA cG;obtain⟨i,gX,hi,rfl,aJ,aD,aK,aL,aE,eS,cL⟩:=hrel;by_cases hlti:i<32
    ·
     have gY:decide ((i:Int)<32)=true:=decide_eq_true (by omega);have gZ:(n8 (g8 n i >>> UInt8.ofNat s &&& 1)==1)=B3l n i s:=Nn (x:=g8 n i >>> UInt8.ofNat s &&& 1) (y:=1);obtain⟨gF,aA⟩:=H8 (wr.alloc (Obj.cells (C9 (I3 20)).toArray 140));have aR:wr.heap.size=wr.heap.size:=rfl;have bB:Bk gF (wr.heap.size) 140 (C9 (I3 20)):=by rw[aA,←aR];exact Bk.new wr _ _
     have eA:=Y3 aA aJ;have eB:=Y3 aA aD;have eC:=Y3 aA aK;have eD:=Y3 aA aL;have eE:=Y3 aA aE;have fL:=Jx aA eS;have aS:=Y9 aR aJ;have aT:=Y9 aR aD;have aU:=Y9 aR aK;have aV:=Y9 aR aL;have aW:=Y9 aR aE;have dK:w.heap.size+2≤wr.heap.size:=by rw[←aR];exact Nat.le_trans cL (Nat.le_refl _)
     clear aR;obtain⟨fM,aB⟩:=H8 (E0 gF ⟨wr.heap.size,0,none⟩ (C9 (O9 Kt i).row));have aN:=Dl 20 aB bB (by simp) ((Ip.at i).row);have aF:=I4 aB eA (by omega);have bC:=I4 aB eB (by omega);have aO:=I4 aB eC (by omega);have bD:=I4 aB eD (by omega);have aP:=I4 aB eE (by omega);have eF:=Z9 aB fL (by omega);cases hb2:B3l n i s;case false=>
      have aG:=Ck 20 bB (by simp);rw[aA]at aG;have fH:=(aF).at_ (Ej (l:=n) (i:=i) (by have hh:n.length=32:=hn;omega));rw[aB,aA]at fH;have aC:(O9 Kt i).row.length=20:=(Ip.at i).row;go_wp2_with fail;rw[←aA,←aB];clear aG fH aC;obtain⟨hE,eG⟩:=H8 (wr.heap.size);rw[←eG]at aN aS aT aU aV aW dK;try rw[←eG]
      have cN:w.heap.size+2≤fM.heap.size:=by have hz:=cL;rw[aB,aA];first | (simp;omega) | (simp[World.setCell];omega)
      clear aA aB eG cL;go_roundw;case rel=>exact ⟨i+1,by omega,by omega,by go_num,aF,bC,aO,bD,(by rw[A8y hb2];exact aP),eF,cN⟩
      case measure=>simp[intOf];omega
     case true=>
      have aG:=Ck 20 bB (by simp);rw[aA]at aG;have fH:=(aF).at_ (Ej (l:=n) (i:=i) (by have hh:n.length=32:=hn;omega));rw[aB,aA]at fH;have gG:=Bk.row64 (n:=20) (aP) ((Gz n s (Fo (Ae n m)) i).row);rw[aB,aA]at gG;have gH:=Bk.row64 (n:=20) (aN) ((Ip.at i).row);rw[aB,aA]at gH;have gI:=Bk.row64 (n:=5) (aO) (Q4);rw[aB,aA]at gI;have aC:(O9 Kt i).row.length=20:=(Ip.at i).row;go_wp2_with fail;rw[←aA,←aB];clear aG fH gG gH gI aC;obtain⟨hF,eH⟩:=H8 (wr.heap.size);rw[←eH]at aN aS aT aU aV aW dK;try rw[←eH]
      have cN:w.heap.size+2≤fM.heap.size:=by have hz:=cL;rw[aB,aA];first | (simp;omega) | (simp[World.setCell];omega)
      clear aA aB eH cL;refine (Ix (Bm n s (Ic (Ae n m)) i) (O9 Kt i) I9 (Gz n s (Fo (Ae n m)) i) (Ip.at i) Q4 fM).mono ?_;rintro e gR ⟨rfl,dL⟩;have gJ:=J5 eF dL;have gK:=Nat.le_trans cN dL.size;have dM:=aF.bl dL;have dN:=bC.bl dL;have dO:=aO.bl dL;have dP:=bD.bl dL;have cK:=aP.bl dL;clear dL eF cN aF bC aO bD aP aN;obtain⟨gS,aQ⟩:=H8 (E0 gR ⟨eR,0,none⟩ (C9 (T6 (Bm n s (Ic (Ae n m)) i) (O9 Kt i) I9).row));have eI:Bk gS (eR) 140 (C9 (T6 (Bm n s (Ic (Ae n m)) i) (O9 Kt i) I9).row):=by rw[aQ];exact Bk.put64 (cK) ((Gz n s (Fo (Ae n m)) i).row) ((Bd (Bm n s (Ic (Ae n m)) i) (O9 Kt i) I9).row)
      have eJ:=I4 aQ dM (by omega);have eK:=I4 aQ dN (by omega);have eL:=I4 aQ dO (by omega);have eM:=I4 aQ dP (by omega);have fN:=Z9 aQ gJ (by omega);have eN:=Ck 20 cK ((Gz n s (Fo (Ae n m)) i).row);have aC:(T6 (Bm n s (Ic (Ae n m)) i) (O9 Kt i) I9).row.length=20:=(Bd (Bm n s (Ic (Ae n m)) i) (O9 Kt i) I9).row;go_wp2_with fail;rw[←aQ];clear eN aC;have fO:=Gd aQ gK;clear aQ dM dN dO dP cK gJ gK;go_roundw;case rel=>exact ⟨i+1,by omega,by omega,by go_num,eJ,eK,eL,eM,(by rw[A4z hb2 hlti];exact eI),fN,fO⟩
      case measure=>simp[intOf];omega
    ·
     obtain rfl:i=32:=by omega
     have gL:((32:Nat):Int)=32:=rfl;rw[gL];clear gL;go_wp2_with fail;go_roundw;case rel=>exact ⟨m+1,by omega,by omega,by rw[←ES.out];all_goals (simp<;>omega),aJ,aD,aK,aL,(by rw[HM.out];exact aE),eS,cL⟩
     case measure=>have:=ES.out;simp[intOf]<;>omega
  ·
   obtain rfl:m=8:=by omega
   obtain⟨hG,cO⟩:=H8 (E0 wr ⟨w.heap.size+1,0,none⟩ (C9 (Ae n 8).row));have eO:=Dl 20 cO aD (by simp) ((Fe n 8).row);have fP:=Z9 cO eS (by omega);have gT:=Bk.row64 (n:=20) (aE) ((Fe n 8).row);have eP:=Ck 20 aD (by simp);have aC:(Ae n 8).row.length=20:=(Fe n 8).row;go_wp2_with fail;rw[←cO];clear gT eP aC;clear cO cL;have fQ:(Ae n 8).row.length=20:=(Fe n 8).row;refine bodyPost_ret (E5 rfl _ _ _ _ _ _ rfl eO X3 rfl (by simp[Bt,fQ])) rfl ⟨rfl,fP⟩
end Go.Proofs.YtlegpkdighoflaaGreat
