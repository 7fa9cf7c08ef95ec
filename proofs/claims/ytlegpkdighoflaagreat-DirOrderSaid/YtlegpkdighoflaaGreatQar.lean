/- A part of the proof of DirOrder. -/
import Derived.Test.YtlegpkdighoflaaGreatQaq
set_option linter.unusedVariables false
set_option linter.unusedSimpArgs false
set_option maxRecDepth 100000
set_option maxHeartbeats 40000000
namespace Go.Proofs.YtlegpkdighoflaaGreat
open Go Go.RowKit Sh
def F0 (b:List UInt8):List UInt8:=b.set 31 (g8 b 31 &&& 127)
theorem Uy {b:List UInt8} (h:b.length=32):(F0 b).length=32:=by unfold F0;rw[List.length_set];exact h
def Tx (b:List UInt8):List UInt64:=C6 (F0 b)
theorem Ux (b:List UInt8):(Tx b).length=5:=F9 _
def A4h (b:List UInt8):List UInt64:=E3 (C4 (Tx b) (Tx b)) (D9 1)
def A3o (b:List UInt8):List UInt64:=C7 (C4 (C4 (Tx b) (Tx b)) Ei) (D9 1)
def Tt (b:List UInt8):List UInt64:=X7 (A4h b) (A3o b)
def Jk (b:List UInt8):Bool:=g8 b 31 >>> 7==1
def Gp (b:List UInt8):Bool:=Kk (F0 b)&&(Cq (A4h b) (A3o b) && !(Jk b&&N9 (Tt b)==z8 32))
def Cl (b:List UInt8):Pn:=if Gp b then T8 (if Jk b then E3 (D9 0) (Tt b) else Tt b) (Tx b) else Bg
def Vl (b:List UInt8):Int:=if Gp b then 0 else 50
theorem Ij (b:List UInt8):(Cl b).Ok:=by
 unfold Cl;split
 ·refine U6 ?_ (Ux b);split
  ·rfl
  ·exact U2 _ _
 ·exact Dh
theorem Vy {b:List UInt8} (h:Gp b=false):Cl b=Bg∧Vl b=50:=by unfold Cl Vl;rw[if_neg (by rw[h];decide),if_neg (by rw[h];decide)];exact ⟨rfl,rfl⟩
theorem B5s {b:List UInt8} (h:Kk (F0 b)=false):Cl b=Bg∧Vl b=50:=Vy (by unfold Gp;rw[h];rfl)
theorem B6b {b:List UInt8} (h:Cq (A4h b) (A3o b)=false):Cl b=Bg∧Vl b=50:=Vy (by unfold Gp;rw[h];simp)
theorem B3x {b:List UInt8} (h:Jk b=true) (h2:(N9 (Tt b)==z8 32)=true):Cl b=Bg∧Vl b=50:=Vy (by unfold Gp;rw[h,h2];simp)
theorem B8s {b:List UInt8} (h0:Kk (F0 b)=true) (h1:Cq (A4h b) (A3o b)=true) (h:Jk b=false):Cl b=T8 (Tt b) (Tx b)∧Vl b=0:=by
 have e:Gp b=true:=by unfold Gp;rw[h0,h1,h];rfl
 unfold Cl Vl;rw[if_pos e,if_pos e,if_neg (by rw[h];decide)];exact ⟨rfl,rfl⟩
theorem C2l {b:List UInt8} (h0:Kk (F0 b)=true) (h1:Cq (A4h b) (A3o b)=true) (h:Jk b=true) (h2:(N9 (Tt b)==z8 32)=false):Cl b=T8 (E3 (D9 0) (Tt b)) (Tx b)∧Vl b=0:=by
 have e:Gp b=true:=by unfold Gp;rw[h0,h1,h,h2];rfl
 unfold Cl Vl;rw[if_pos e,if_pos e,if_pos h];exact ⟨rfl,rfl⟩
theorem A6y (b:List UInt8) (hb:b.length=32) (w:World):Calls Tryz.prog 113 #[A8 b] w fun e w'=>e=.returned (.tuple #[H7 (Cl b).row,.int .i64 (Vl b)])∧Below w.heap.size w w':=by
 have lJ:(n8 (g8 b 31 >>> 7)==1)=Jk b:=Nn (x:=g8 b 31 >>> 7) (y:=1);obtain⟨W0,gG⟩:=H8 (((w.alloc (Obj.cells (c8 b).toArray 23)).alloc (Obj.cells (C9 (I3 20)).toArray 140)));have hL:W0=M2 w [(23,(c8 b)),(140,(C9 (I3 20)))]:=gG;have B0:=Jc hL;have bN:=Jy hL rfl;have iR:=Gs 1 hL rfl;have z0:=Vp 2 hL rfl;have lK:=SL' 2 hL rfl;clear hL;obtain⟨Vd,iM⟩:=H8 ((w.alloc (Obj.cells ((c8 b).set 31 (.int .u8 (n8 (g8 b 31 &&& 127)))).toArray 23)).alloc (Obj.cells (C9 (I3 20)).toArray 140));have gK:Vd=M2 w [(23,((c8 b).set 31 (.int .u8 (n8 (g8 b 31 &&& 127))))),(140,C9 (I3 20))]:=iM;have jW:=Jc gK;have bO:Bk Vd w.heap.size 23 (c8 (F0 b)):=by unfold F0;rw[←Ft,gK];exact Z5 _ w 0 _ _ rfl
 have dM:=Gs 1 gK rfl;have jX:=Vp 2 gK rfl;clear gK;have fB:=Bk.row8 (n:=32) bO (Uy hb);rw[iM]at fB;unfold F0 at fB;rw[←Ft]at fB;have f1:=(bN).at_ (Ej (l:=b) (i:=31) (by have hh:b.length=32:=hb;omega));rw[gG]at f1;have f2:=(bN).at_ (Ej (l:=b) (i:=31) (by have hh:b.length=32:=hb;omega));rw[gG]at f2;have jY:=bN.at_ (Ej (l:=b) (i:=31) (by omega));rw[gG]at jY;have jZ:=bN.frozen 31;rw[gG]at jZ;go_enter Tryz.func113,Tryz.ntmps113;go_wp2_with fail;rw[←iM];clear f1 f2 jY jZ;clear gG iM lK bN iR B0 z0;clear fB;rw[Ft,show b.set 31 (g8 b 31 &&& 127)=F0 b from rfl];go_wp2_with fail;refine (A3w (F0 b) (Uy hb) Vd).mono ?_;rintro e W3 ⟨rfl,b4⟩;have B3:=J5 jW b4;have z3:=Nat.le_trans jX b4.size;have dF:=bO.bl b4;have dG:=dM.bl b4;clear b4 jW jX bO dM;clear lJ;cases hok:Kk (F0 b);case false=>
  have HE:=Lib.hid (B5s hok);clear hok;obtain⟨V5,dH⟩:=H8 (W3.alloc (Obj.cells (C9 (I3 5)).toArray 138));have gL:W3.heap.size=W3.heap.size:=rfl;have bP:Bk V5 (W3.heap.size) 138 (C9 (I3 5)):=by rw[dH,←gL];exact Bk.new W3 _ _
  have dN:=Y3 dH dF;have dO:=Y3 dH dG;have kD:=Jx dH B3;have aD:=Y9 gL dF;have aE:=Y9 gL dG;have bQ:w.heap.size+2≤W3.heap.size:=by rw[←gL];exact Nat.le_trans z3 (Nat.le_refl _)
  clear gL;obtain⟨V6,dP⟩:=H8 (E0 V5 ⟨W3.heap.size,0,none⟩ (C9 (C6 (F0 b))));have dQ:=Dl 5 dP bP (by simp) (F9 (F0 b));have dR:=I4 dP dN (by omega);have bR:=I4 dP dO (by omega);have kE:=Z9 dP kD (by omega);obtain⟨V7,eZ⟩:=H8 (E0 V6 ⟨w.heap.size+1,0,none⟩ (C9 (I3 20)));have gM:=Dl 20 eZ bR (by simp) (by simp);have kF:=I4 eZ dR (by omega);have gN:=I4 eZ dQ (by omega);have lL:=Z9 eZ kE (by omega);have dS:=Ck 5 bP (by simp);rw[dH]at dS;have dT:=Ck 20 bR (by simp);rw[dP,dH]at dT;have aA:(C6 (F0 b)).length=5:=(F9 (F0 b));have fD:(I3 20).length=20:=(show (I3 20).length=20 from by simp);go_wp2_with fail;rw[←dH,←dP,←eZ];clear dS dT aA fD;obtain⟨p8,iS⟩:=H8 (W3.heap.size);rw[←iS]at gN aD aE bQ;try rw[←iS]
  have mE:w.heap.size+2≤V7.heap.size:=by have hz:=z3;rw[eZ,dP,dH];first | (simp;omega) | (simp[World.setCell];omega)
  clear dH dP eZ iS z3 dN dO bP kD dR bR dQ kE;have aU:(I3 20).length=20:=(show (I3 20).length=20 from by simp);refine bodyPost_ret (v:=.tuple #[H7 (I3 20),.int .i64 50]) ?_ rfl ⟨?_,lL⟩
  ·refine M7 rfl ?_ ?_
   ·exact L6.row gM rfl _ X3 rfl (by simp[Bt,aU])
   ·exact L6.tmp rfl
  ·rw[HE.out.1,HE.out.2];rfl
 case true=>
  have HK:=Lib.hid hok;clear hok;have mF:=Ux b;obtain⟨V9,dD⟩:=H8 (W3.alloc (Obj.cells (C9 (I3 5)).toArray 138));have gO:W3.heap.size=W3.heap.size:=rfl;have bS:Bk V9 (W3.heap.size) 138 (C9 (I3 5)):=by rw[dD,←gO];exact Bk.new W3 _ _
  have dU:=Y3 dD dF;have dV:=Y3 dD dG;have kG:=Jx dD B3;have aD:=Y9 gO dF;have aE:=Y9 gO dG;have bQ:w.heap.size+2≤W3.heap.size:=by rw[←gO];exact Nat.le_trans z3 (Nat.le_refl _)
  clear gO;obtain⟨kH,aV⟩:=H8 (E0 V9 ⟨W3.heap.size,0,none⟩ (C9 (C6 (F0 b))));have aF:=Dl 5 aV bS (by simp) (F9 (F0 b));have bT:=I4 aV dU (by omega);have bU:=I4 aV dV (by omega);have gP:=Z9 aV kG (by omega);have bV:=Ck 5 bS (by simp);rw[dD]at bV;have kI:=Bk.row64 (n:=5) (aF) ((F9 (F0 b)));rw[aV,dD]at kI;have kJ:=Bk.row64 (n:=5) (aF) ((F9 (F0 b)));rw[aV,dD]at kJ;have aA:(C6 (F0 b)).length=5:=(F9 (F0 b));go_wp2_with fail;rw[←dD,←aV];clear bV kI kJ aA;obtain⟨mG,fE⟩:=H8 (W3.heap.size);rw[←fE]at aF aD aE bQ;try rw[←fE]
  have gQ:w.heap.size+2≤kH.heap.size:=by have hz:=z3;rw[aV,dD];first | (simp;omega) | (simp[World.setCell];omega)
  clear dD aV fE z3 dU dV bS kG;refine (J9 (C6 (F0 b)) (C6 (F0 b)) (F9 (F0 b)) (F9 (F0 b)) kH).mono ?_;rintro e lM ⟨rfl,gH⟩;have kK:=J5 gP gH;have kL:=Nat.le_trans gQ gH.size;have dW:=bT.bl gH;have dX:=bU.bl gH;have dY:=aF.bl gH;clear gH gP gQ bT bU aF;go_wp2_with fail;refine (Iz 1 lM).mono ?_;rintro e bM ⟨rfl,gI⟩;have kM:=J5 kK gI;have iN:=Nat.le_trans kL gI.size;have bX:=dW.bl gI;have bY:=dX.bl gI;have bZ:=dY.bl gI;clear gI kK kL dW dX dY;obtain⟨iO,aG⟩:=H8 (bM.alloc (Obj.cells (C9 (I3 5)).toArray 138));have bL:bM.heap.size=bM.heap.size:=rfl;have aZ:Bk iO (bM.heap.size) 138 (C9 (I3 5)):=by rw[aG,←bL];exact Bk.new bM _ _
  have bA:=Y3 aG bX;have bB:=Y3 aG bY;have bC:=Y3 aG bZ;have gR:=Jx aG kM;have cA:=Y9 bL bX;have cB:=Y9 bL bY;have cC:=Y9 bL bZ;have gS:w.heap.size+2≤bM.heap.size:=by rw[←bL];exact Nat.le_trans iN (Nat.le_refl _)
  clear bL;obtain⟨kN,aH⟩:=H8 (iO.alloc (Obj.cells (C9 (I3 5)).toArray 138));have aX:iO.heap.size=bM.heap.size+1:=by rw[aG];simp
  have cD:Bk kN (bM.heap.size+1) 138 (C9 (I3 5)):=by rw[aH,←aX];exact Bk.new iO _ _
  have cE:=Y3 aH bA;have cF:=Y3 aH bB;have cG:=Y3 aH bC;have bD:=Y3 aH aZ;have gT:=Jx aH gR;have cH:=Y9 aX bA;have cI:=Y9 aX bB;have cJ:=Y9 aX bC;have cK:=Y9 aX aZ;have gU:w.heap.size+2≤bM.heap.size+1:=by rw[←aX];exact Nat.le_trans iN (by rw[aX];omega)
  clear aX;obtain⟨lN,aL⟩:=H8 (E0 kN ⟨bM.heap.size,0,none⟩ (C9 (C4 (C6 (F0 b)) (C6 (F0 b)))));have cL:=Dl 5 aL bD (by simp) rfl;have cM:=I4 aL cE (by omega);have cN:=I4 aL cF (by omega);have cO:=I4 aL cG (by omega);have bE:=I4 aL cD (by omega);have gV:=Z9 aL gT (by omega);obtain⟨kO,aW⟩:=H8 (E0 lN ⟨bM.heap.size+1,0,none⟩ (C9 (D9 1)));have aB:=Dl 5 aW bE (by simp) rfl;have bF:=I4 aW cM (by omega);have bG:=I4 aW cN (by omega);have bH:=I4 aW cO (by omega);have aC:=I4 aW cL (by omega);have gW:=Z9 aW gV (by omega);have cP:=Ck 5 bD (by simp);rw[aH,aG]at cP;have cQ:=Ck 5 bE (by simp);rw[aL,aH,aG]at cQ;have aA:(C4 (C6 (F0 b)) (C6 (F0 b))).length=5:=rfl;have fD:(D9 1).length=5:=rfl;go_wp2_with fail;rw[←aG,←aH,←aL,←aW];clear cP cQ aA fD;obtain⟨kP,fF⟩:=H8 (bM.heap.size);rw[←fF]at aC aB cA cB cC gS cH cI cJ cK gU;try rw[←fF]
  have fG:w.heap.size+2≤kO.heap.size:=by have hz:=iN;rw[aW,aL,aH,aG];first | (simp;omega) | (simp[World.setCell];omega)
  clear aG aH aL aW fF bX bY bZ kM iN bA bB bC aZ gR cE cF cG bD cD gT cM cN cO cL bE gV;have iT:=Eo kO;refine Dm (fun W=>Bk W (kP) 138 (C9 (C4 (C6 (F0 b)) (C6 (F0 b))))∧Bk W (kP+1) 138 (C9 (D9 1))) ?_;refine Cf (A:=?lO) [0,1,3,6] ⟨(aC.drew),(aB.drew)⟩ (fun W hW=>?iU) ?lP;case iU=>
   have f0:=Bk.row64 (n:=5) (hW.1) (rfl);have f1:=Bk.row64 (n:=5) (hW.2) (rfl);exact Dd
  refine A7n [zv 2 33 (H7 (E3 (C4 (C6 (F0 b)) (C6 (F0 b))) (D9 1))),zv 4 35 (H7 Ei),zv 5 36 (H7 (C4 (C4 (C6 (F0 b)) (C6 (F0 b))) Ei)),zv 7 38 (H7 (C7 (C4 (C4 (C6 (F0 b)) (C6 (F0 b))) Ei) (D9 1))),zv 8 39 (.tuple #[(H7 (X7 (E3 (C4 (C6 (F0 b)) (C6 (F0 b))) (D9 1)) (C7 (C4 (C4 (C6 (F0 b)) (C6 (F0 b))) Ei) (D9 1)))),(.bool (Cq (E3 (C4 (C6 (F0 b)) (C6 (F0 b))) (D9 1)) (C7 (C4 (C4 (C6 (F0 b)) (C6 (F0 b))) Ei) (D9 1))))]),zv 9 30 (.tuple #[(H7 (X7 (E3 (C4 (C6 (F0 b)) (C6 (F0 b))) (D9 1)) (C7 (C4 (C4 (C6 (F0 b)) (C6 (F0 b))) Ei) (D9 1)))),(.bool (Cq (E3 (C4 (C6 (F0 b)) (C6 (F0 b))) (D9 1)) (C7 (C4 (C4 (C6 (F0 b)) (C6 (F0 b))) Ei) (D9 1))))]),zv 10 40 (H7 (X7 (E3 (C4 (C6 (F0 b)) (C6 (F0 b))) (D9 1)) (C7 (C4 (C4 (C6 (F0 b)) (C6 (F0 b))) Ei) (D9 1)))),zv 11 41 (.bool (Cq (E3 (C4 (C6 (F0 b)) (C6 (F0 b))) (D9 1)) (C7 (C4 (C4 (C6 (F0 b)) (C6 (F0 b))) Ei) (D9 1)))),za 12 9 138 (C9 (I3 5))] (zv 11 41 (.bool (Cq (E3 (C4 (C6 (F0 b)) (C6 (F0 b))) (D9 1)) (C7 (C4 (C4 (C6 (F0 b)) (C6 (F0 b))) Ei) (D9 1))))) (M6 7 rfl) (by kernel_rfl) rfl rfl (by kernel_rfl) (by kernel_rfl) (by kernel_rfl) ?iV (fun W hW=>⟨(aC.drew.bl hW),(aB.drew.bl hW)⟩) ?fH ?fI ?fJ
  case fH=>exact Jz
  case fI=>
   refine (N7 ⟨?gX,(N7 ⟨?gY,(N7 ⟨?gZ,(N7 ⟨?hE,(N7 ⟨?hF,(N7 ⟨?hG,(N7 ⟨?fK,(N7 ⟨?fL,(N7 ⟨?fM,Ik⟩)⟩)⟩)⟩)⟩)⟩)⟩)⟩)⟩);case gX=>
    exact Qj fun W=>Ea (C4 (C6 (F0 b)) (C6 (F0 b))) (D9 1) rfl rfl W
   case gY=>exact Hx fun W=>C2i W
   case gZ=>exact Yz fun W=>J9 (C4 (C6 (F0 b)) (C6 (F0 b))) Ei rfl A7c W
   case hE=>exact B1n fun W=>Fi (C4 (C4 (C6 (F0 b)) (C6 (F0 b))) Ei) (D9 1) rfl rfl W
   case hF=>intro o ho us W hW hp Q' hQ';obtain rfl:=Option.some.inj ho;have dZ:us 2=(H7 (E3 (C4 (C6 (F0 b)) (C6 (F0 b))) (D9 1))):=hp 0 _ rfl (by kernel_rfl);have hJ:us 7=(H7 (C7 (C4 (C4 (C6 (F0 b)) (C6 (F0 b))) Ei) (D9 1))):=hp 3 _ rfl (by kernel_rfl);clear hp ho;rw[C8]at hQ' ⊢;dsimp only[F8,I2,List.foldl,zv,za]at hQ' ⊢;simp only[Bu];rw[dZ,hJ]at hQ' ⊢;clear dZ hJ;go_wp2_with fail;refine (B2g (E3 (C4 (C6 (F0 b)) (C6 (F0 b))) (D9 1)) (C7 (C4 (C4 (C6 (F0 b)) (C6 (F0 b))) Ei) (D9 1)) rfl rfl W).mono ?_;rintro e W2 ⟨rfl,b2⟩;go_wp2_with fail;exact Cm (hQ' _ _ b2 rfl nofun)
   case hG=>intro o ho us W hW hp Q' hQ';obtain rfl:=Option.some.inj ho;have hY:us 8=(.tuple #[(H7 (X7 (E3 (C4 (C6 (F0 b)) (C6 (F0 b))) (D9 1)) (C7 (C4 (C4 (C6 (F0 b)) (C6 (F0 b))) Ei) (D9 1)))),(.bool (Cq (E3 (C4 (C6 (F0 b)) (C6 (F0 b))) (D9 1)) (C7 (C4 (C4 (C6 (F0 b)) (C6 (F0 b))) Ei) (D9 1))))]):=hp 4 _ rfl (by kernel_rfl);clear hp ho;rw[C8]at hQ' ⊢;dsimp only[F8,I2,List.foldl,zv,za]at hQ' ⊢;simp only[Bu];rw[hY]at hQ' ⊢;clear hY;go_wp2_with fail;exact Cm (hQ' _ _ (Below.refl _ _) rfl nofun)
   case fK=>intro o ho us W hW hp Q' hQ';obtain rfl:=Option.some.inj ho;have dE:us 9=(.tuple #[(H7 (X7 (E3 (C4 (C6 (F0 b)) (C6 (F0 b))) (D9 1)) (C7 (C4 (C4 (C6 (F0 b)) (C6 (F0 b))) Ei) (D9 1)))),(.bool (Cq (E3 (C4 (C6 (F0 b)) (C6 (F0 b))) (D9 1)) (C7 (C4 (C4 (C6 (F0 b)) (C6 (F0 b))) Ei) (D9 1))))]):=hp 5 _ rfl (by kernel_rfl);clear hp ho;rw[C8]at hQ' ⊢;dsimp only[F8,I2,List.foldl,zv,za]at hQ' ⊢;simp only[Bu];rw[dE]at hQ' ⊢;clear dE;go_wp2_with fail;exact Cm (hQ' _ _ (Below.refl _ _) rfl nofun)
   case fL=>intro o ho us W hW hp Q' hQ';obtain rfl:=Option.some.inj ho;have dE:us 9=(.tuple #[(H7 (X7 (E3 (C4 (C6 (F0 b)) (C6 (F0 b))) (D9 1)) (C7 (C4 (C4 (C6 (F0 b)) (C6 (F0 b))) Ei) (D9 1)))),(.bool (Cq (E3 (C4 (C6 (F0 b)) (C6 (F0 b))) (D9 1)) (C7 (C4 (C4 (C6 (F0 b)) (C6 (F0 b))) Ei) (D9 1))))]):=hp 5 _ rfl (by kernel_rfl);clear hp ho;rw[C8]at hQ' ⊢;dsimp only[F8,I2,List.foldl,zv,za]at hQ' ⊢;simp only[Bu];rw[dE]at hQ' ⊢;clear dE;go_wp2_with fail;exact Cm (hQ' _ _ (Below.refl _ _) rfl nofun)
   case fM=>exact M8 rfl rfl (fun ρ W=>Z4 W ρ _ _ _ _ _)
  case iV=>
   intro us W hW hg;have dE:us 9=(.tuple #[(H7 (X7 (E3 (C4 (C6 (F0 b)) (C6 (F0 b))) (D9 1)) (C7 (C4 (C4 (C6 (F0 b)) (C6 (F0 b))) Ei) (D9 1)))),(.bool (Cq (E3 (C4 (C6 (F0 b)) (C6 (F0 b))) (D9 1)) (C7 (C4 (C4 (C6 (F0 b)) (C6 (F0 b))) Ei) (D9 1))))]):=hg _ (M6 5 rfl) (show (9:Nat)≠11 by decide);refine ⟨_,rfl,fun W' hW'=>?_⟩;clear hg;refine Mu ?_;rw[dE];try simp only[Bv,List.getElem?_cons_zero,List.getElem?_cons_succ]
   repeat (go_big_quiet_step (fail))
   refine wpQuiet_nil ?_;kernel_rfl
  case fJ=>
  intro us lQ kQ hg fN iP;have dZ:us 2=(H7 (E3 (C4 (C6 (F0 b)) (C6 (F0 b))) (D9 1))):=hg _ (M6 0 rfl);have kR:us 4=(H7 Ei):=hg _ (M6 1 rfl);have kS:us 5=(H7 (C4 (C4 (C6 (F0 b)) (C6 (F0 b))) Ei)):=hg _ (M6 2 rfl);have hJ:us 7=(H7 (C7 (C4 (C4 (C6 (F0 b)) (C6 (F0 b))) Ei) (D9 1))):=hg _ (M6 3 rfl);have hY:us 8=(.tuple #[(H7 (X7 (E3 (C4 (C6 (F0 b)) (C6 (F0 b))) (D9 1)) (C7 (C4 (C4 (C6 (F0 b)) (C6 (F0 b))) Ei) (D9 1)))),(.bool (Cq (E3 (C4 (C6 (F0 b)) (C6 (F0 b))) (D9 1)) (C7 (C4 (C4 (C6 (F0 b)) (C6 (F0 b))) Ei) (D9 1))))]):=hg _ (M6 4 rfl);have dE:us 9=(.tuple #[(H7 (X7 (E3 (C4 (C6 (F0 b)) (C6 (F0 b))) (D9 1)) (C7 (C4 (C4 (C6 (F0 b)) (C6 (F0 b))) Ei) (D9 1)))),(.bool (Cq (E3 (C4 (C6 (F0 b)) (C6 (F0 b))) (D9 1)) (C7 (C4 (C4 (C6 (F0 b)) (C6 (F0 b))) Ei) (D9 1))))]):=hg _ (M6 5 rfl);have iA:us 10=(H7 (X7 (E3 (C4 (C6 (F0 b)) (C6 (F0 b))) (D9 1)) (C7 (C4 (C4 (C6 (F0 b)) (C6 (F0 b))) Ei) (D9 1)))):=hg _ (M6 6 rfl);have iB:us 11=(.bool (Cq (E3 (C4 (C6 (F0 b)) (C6 (F0 b))) (D9 1)) (C7 (C4 (C4 (C6 (F0 b)) (C6 (F0 b))) Ei) (D9 1)))):=hg _ (M6 7 rfl);obtain⟨iC,cR,cS⟩:=hg _ (M6 8 rfl);have cR:us 12=.pointer (some ⟨iC,0,none⟩):=cR
  have bI:=Ac (iP _ (M6 8 rfl) rfl) cR;have eA:=J5 iT kQ;have iD:=Q8 bF bI.1;have iE:=Q8 bG bI.1;have iF:=Q8 bH bI.1;have iG:=Q8 aC bI.1;have iH:=Q8 aB bI.1;have kT:w.heap.size+2≤iC:=Nat.le_trans fG (Nat.le_trans iT.size bI.1);clear bI;refine Mu ?_;rw[dZ,kR,kS,hJ,hY,dE,iA,iB,cR];clear hg fN iP dZ kR kS hJ hY dE iA iB cR kQ iT;have kU:=J5 gW eA;have kV:=Nat.le_trans fG eA.size;have eB:=bF.bl eA;have eC:=bG.bl eA;have eD:=bH.bl eA;have eE:=aC.bl eA;have eF:=aB.bl eA;clear eA gW fG bF bG bH aC aB;obtain⟨iW,aM⟩:=H8 (E0 lQ ⟨iC,0,none⟩ (C9 (X7 (E3 (C4 (C6 (F0 b)) (C6 (F0 b))) (D9 1)) (C7 (C4 (C4 (C6 (F0 b)) (C6 (F0 b))) Ei) (D9 1)))));have aI:=Dl 5 aM cS (by simp) (U2 (E3 (C4 (C6 (F0 b)) (C6 (F0 b))) (D9 1)) (C7 (C4 (C4 (C6 (F0 b)) (C6 (F0 b))) Ei) (D9 1)));have aY:=I4 aM eB (by omega);have aS:=I4 aM eC (by omega);have aT:=I4 aM eD (by omega);have aJ:=I4 aM eE (by omega);have aK:=I4 aM eF (by omega);have iI:=Z9 aM kU (by omega);have fO:=Ck 5 cS (by simp)
  have fP:(X7 (E3 (C4 (C6 (F0 b)) (C6 (F0 b))) (D9 1)) (C7 (C4 (C4 (C6 (F0 b)) (C6 (F0 b))) Ei) (D9 1))).length=5:=(U2 (E3 (C4 (C6 (F0 b)) (C6 (F0 b))) (D9 1)) (C7 (C4 (C4 (C6 (F0 b)) (C6 (F0 b))) Ei) (D9 1)));refine U0 13 fun Q' hQ'=>?_;dsimp only[F8];go_wp2_with fail;rw[←aM];refine hQ' _ _ ⟨aJ,aK⟩ ?_;clear hQ' fO fP;have gJ:=Gd aM kV;clear aM kU kV eB eC eD eE eF cS;refine U0 14 fun Q' hQ'=>?_;dsimp only[F8];go_wp2_with fail;refine hQ' _ _ ⟨aJ,aK⟩ ?_;clear hQ';refine Cu ?_;have mH:(Tt b).length=5:=U2 _ _;cases hr:Cq (E3 (C4 (C6 (F0 b)) (C6 (F0 b))) (D9 1)) (C7 (C4 (C4 (C6 (F0 b)) (C6 (F0 b))) Ei) (D9 1));case false=>
   have HE:=Lib.hid (B6b hr);clear hr;obtain⟨mI,aN⟩:=H8 (E0 iW ⟨w.heap.size+1,0,none⟩ (C9 (I3 20)));have fQ:=Dl 20 aN aS (by simp) (by simp);have iX:=I4 aN aY (by omega);have iY:=I4 aN aT (by omega);have iZ:=I4 aN aJ (by omega);have jA:=I4 aN aK (by omega);have jB:=I4 aN aI (by omega);have jC:=Z9 aN iI (by omega);have fR:=Ck 20 aS (by simp);have aA:(I3 20).length=20:=(show (I3 20).length=20 from by simp);go_wp2_with fail;rw[←aN];clear fR aA;have lR:=Gd aN gJ;clear aN gJ;have aU:(I3 20).length=20:=(show (I3 20).length=20 from by simp);refine bodyPost_ret (v:=.tuple #[H7 (I3 20),.int .i64 50]) ?_ rfl ⟨?_,jC⟩
   ·refine M7 rfl ?_ ?_
    ·exact L6.row fQ rfl _ X3 rfl (by simp[Bt,aU])
    ·exact L6.tmp rfl
   ·rw[HE.out.1,HE.out.2];rfl
  case true=>
   have HR:=Lib.hid hr;clear hr;cases hod:Jk b;case false=>
    have HE:=Lib.hid (B8s HK.out HR.out hod);clear hod;have lS:=Bk.row64 (n:=5) (aI) ((U2 (E3 (C4 (C6 (F0 b)) (C6 (F0 b))) (D9 1)) (C7 (C4 (C4 (C6 (F0 b)) (C6 (F0 b))) Ei) (D9 1))));have lT:=Bk.row64 (n:=5) (aT) ((F9 (F0 b)));go_wp2_with fail;clear lS lT;refine (Jl (X7 (E3 (C4 (C6 (F0 b)) (C6 (F0 b))) (D9 1)) (C7 (C4 (C4 (C6 (F0 b)) (C6 (F0 b))) Ei) (D9 1))) (C6 (F0 b)) (U2 (E3 (C4 (C6 (F0 b)) (C6 (F0 b))) (D9 1)) (C7 (C4 (C4 (C6 (F0 b)) (C6 (F0 b))) Ei) (D9 1))) (F9 (F0 b)) iW).mono ?_;rintro e Mx ⟨rfl,dI⟩;have kW:=J5 iI dI;have Pz:=Nat.le_trans gJ dI.size;have eG:=aY.bl dI;have cT:=aS.bl dI;have eH:=aT.bl dI;have eI:=aJ.bl dI;have eJ:=aK.bl dI;have eK:=aI.bl dI;clear dI iI gJ aY aS aT aJ aK aI;obtain⟨mJ,aO⟩:=H8 (E0 Mx ⟨w.heap.size+1,0,none⟩ (C9 (T8 (X7 (E3 (C4 (C6 (F0 b)) (C6 (F0 b))) (D9 1)) (C7 (C4 (C4 (C6 (F0 b)) (C6 (F0 b))) Ei) (D9 1))) (C6 (F0 b))).row));have fS:=Dl 20 aO cT (by simp) ((U6 (U2 (E3 (C4 (C6 (F0 b)) (C6 (F0 b))) (D9 1)) (C7 (C4 (C4 (C6 (F0 b)) (C6 (F0 b))) Ei) (D9 1))) (F9 (F0 b))).row);have jD:=I4 aO eG (by omega)
    have jE:=I4 aO eH (by omega);have jF:=I4 aO eI (by omega);have jG:=I4 aO eJ (by omega);have jH:=I4 aO eK (by omega);have jI:=Z9 aO kW (by omega);have fT:=Ck 20 cT (by simp);have aA:(T8 (X7 (E3 (C4 (C6 (F0 b)) (C6 (F0 b))) (D9 1)) (C7 (C4 (C4 (C6 (F0 b)) (C6 (F0 b))) Ei) (D9 1))) (C6 (F0 b))).row.length=20:=(U6 (U2 (E3 (C4 (C6 (F0 b)) (C6 (F0 b))) (D9 1)) (C7 (C4 (C4 (C6 (F0 b)) (C6 (F0 b))) Ei) (D9 1))) (F9 (F0 b))).row;go_wp2_with fail;rw[←aO];clear fT aA;have lU:=Gd aO Pz;clear aO eG cT eH eI eJ eK kW Pz;have aU:(T8 (X7 (E3 (C4 (C6 (F0 b)) (C6 (F0 b))) (D9 1)) (C7 (C4 (C4 (C6 (F0 b)) (C6 (F0 b))) Ei) (D9 1))) (C6 (F0 b))).row.length=20:=(U6 (U2 (E3 (C4 (C6 (F0 b)) (C6 (F0 b))) (D9 1)) (C7 (C4 (C4 (C6 (F0 b)) (C6 (F0 b))) Ei) (D9 1))) (F9 (F0 b))).row;refine bodyPost_ret (v:=.tuple #[H7 (T8 (X7 (E3 (C4 (C6 (F0 b)) (C6 (F0 b))) (D9 1)) (C7 (C4 (C4 (C6 (F0 b)) (C6 (F0 b))) Ei) (D9 1))) (C6 (F0 b))).row,.int .i64 0]) ?_ rfl ⟨?_,jI⟩
    ·refine M7 rfl ?_ ?_
     ·exact L6.row fS rfl _ X3 rfl (by simp[Bt,aU])
     ·exact L6.tmp rfl
    ·rw[HE.out.1,HE.out.2];rfl
   case true=>
    have HO:=Lib.hid hod;clear hod;have lV:=Bk.row64 (n:=5) (aI) ((U2 (E3 (C4 (C6 (F0 b)) (C6 (F0 b))) (D9 1)) (C7 (C4 (C4 (C6 (F0 b)) (C6 (F0 b))) Ei) (D9 1))));go_wp2_with fail;clear lV;refine (Dj (X7 (E3 (C4 (C6 (F0 b)) (C6 (F0 b))) (D9 1)) (C7 (C4 (C4 (C6 (F0 b)) (C6 (F0 b))) Ei) (D9 1))) (U2 (E3 (C4 (C6 (F0 b)) (C6 (F0 b))) (D9 1)) (C7 (C4 (C4 (C6 (F0 b)) (C6 (F0 b))) Ei) (D9 1))) iW).mono ?_;rintro e kX ⟨rfl,dJ⟩;have jJ:=J5 iI dJ;have iQ:=Nat.le_trans gJ dJ.size;have cU:=aY.bl dJ;have bJ:=aS.bl dJ;have cV:=aT.bl dJ;have cW:=aJ.bl dJ;have cX:=aK.bl dJ;have bK:=aI.bl dJ;clear dJ iI gJ aY aS aT aJ aK aI;cases hx:(N9 (X7 (E3 (C4 (C6 (F0 b)) (C6 (F0 b))) (D9 1)) (C7 (C4 (C4 (C6 (F0 b)) (C6 (F0 b))) Ei) (D9 1)))==z8 32);case false=>
     have HE:=Lib.hid (C2l HK.out HR.out HO.out hx);go_wp2_with fail;have kY:=Eo kX;refine Dm (fun W=>True) ?_;refine J2 [zv 0 55 (H7 (D9 0)),zv 1 56 (H7 (X7 (E3 (C4 (C6 (F0 b)) (C6 (F0 b))) (D9 1)) (C7 (C4 (C4 (C6 (F0 b)) (C6 (F0 b))) Ei) (D9 1)))),zv 2 57 (H7 (E3 (D9 0) (X7 (E3 (C4 (C6 (F0 b)) (C6 (F0 b))) (D9 1)) (C7 (C4 (C4 (C6 (F0 b)) (C6 (F0 b))) Ei) (D9 1)))))] (by kernel_rfl) (fun W hW=>trivial) ?fU ?fV ?fW;case fU=>exact Jz
     case fV=>
      refine (N7 ⟨?iJ,(N7 ⟨?iK,(N7 ⟨?iL,Ik⟩)⟩)⟩);case iJ=>
       exact Qj fun W=>Iz 0 W
      case iK=>intro o ho us W hW hp Q' hQ';obtain rfl:=Option.some.inj ho;clear hp ho;rw[C8]at hQ' ⊢;dsimp only[F8,I2,List.foldl,zv,za]at hQ' ⊢;simp only[Bu];have f1:=Bk.row64 (n:=5) (bK.drew.bl hW) ((U2 (E3 (C4 (C6 (F0 b)) (C6 (F0 b))) (D9 1)) (C7 (C4 (C4 (C6 (F0 b)) (C6 (F0 b))) Ei) (D9 1))));go_wp2_with fail;exact Cm (hQ' _ _ (Below.refl _ _) rfl nofun)
      case iL=>exact A3u fun W=>Ea (D9 0) (X7 (E3 (C4 (C6 (F0 b)) (C6 (F0 b))) (D9 1)) (C7 (C4 (C4 (C6 (F0 b)) (C6 (F0 b))) Ei) (D9 1))) rfl (U2 (E3 (C4 (C6 (F0 b)) (C6 (F0 b))) (D9 1)) (C7 (C4 (C4 (C6 (F0 b)) (C6 (F0 b))) Ei) (D9 1))) W
     case fW=>
     intro us lX kZ hg fN iP;have lA:us 0=(H7 (D9 0)):=hg _ (M6 0 rfl);have lB:us 1=(H7 (X7 (E3 (C4 (C6 (F0 b)) (C6 (F0 b))) (D9 1)) (C7 (C4 (C4 (C6 (F0 b)) (C6 (F0 b))) Ei) (D9 1)))):=hg _ (M6 1 rfl);have dZ:us 2=(H7 (E3 (D9 0) (X7 (E3 (C4 (C6 (F0 b)) (C6 (F0 b))) (D9 1)) (C7 (C4 (C4 (C6 (F0 b)) (C6 (F0 b))) Ei) (D9 1))))):=hg _ (M6 2 rfl);have dK:=J5 kY kZ;refine Mu ?_;rw[lA,lB,dZ];clear hg fN iP lA lB dZ kZ kY;have lC:=J5 jJ dK;have lD:=Nat.le_trans iQ dK.size;have eL:=cU.bl dK;have eM:=bJ.bl dK;have eN:=cV.bl dK;have eO:=cW.bl dK;have eP:=cX.bl dK;have cY:=bK.bl dK;clear dK jJ iQ cU bJ cV cW cX bK;obtain⟨lE,aP⟩:=H8 (E0 lX ⟨iC,0,none⟩ (C9 (E3 (D9 0) (X7 (E3 (C4 (C6 (F0 b)) (C6 (F0 b))) (D9 1)) (C7 (C4 (C4 (C6 (F0 b)) (C6 (F0 b))) Ei) (D9 1))))));have cZ:Bk lE (iC) 138 (C9 (E3 (D9 0) (X7 (E3 (C4 (C6 (F0 b)) (C6 (F0 b))) (D9 1)) (C7 (C4 (C4 (C6 (F0 b)) (C6 (F0 b))) Ei) (D9 1))))):=by rw[aP];exact Bk.put64 (cY) ((U2 (E3 (C4 (C6 (F0 b)) (C6 (F0 b))) (D9 1)) (C7 (C4 (C4 (C6 (F0 b)) (C6 (F0 b))) Ei) (D9 1)))) (rfl)
     have eQ:=I4 aP eL (by omega);have eR:=I4 aP eM (by omega);have dB:=I4 aP eN (by omega);have eS:=I4 aP eO (by omega);have eT:=I4 aP eP (by omega);have lF:=Z9 aP lC (by omega);have fX:=Ck 5 cY (U2 (E3 (C4 (C6 (F0 b)) (C6 (F0 b))) (D9 1)) (C7 (C4 (C4 (C6 (F0 b)) (C6 (F0 b))) Ei) (D9 1)));have fY:(E3 (D9 0) (X7 (E3 (C4 (C6 (F0 b)) (C6 (F0 b))) (D9 1)) (C7 (C4 (C4 (C6 (F0 b)) (C6 (F0 b))) Ei) (D9 1)))).length=5:=rfl;refine U0 3 fun Q' hQ'=>?_;dsimp only[F8];go_wp2_with fail;rw[←aP];refine hQ' _ _ trivial ?_;clear hQ' fX fY;have lG:=Gd aP lD;clear aP lC lD eL eM eN eO eP cY;refine Cu ?_;have lY:=Bk.row64 (n:=5) (cZ) (rfl);have lZ:=Bk.row64 (n:=5) (dB) ((F9 (F0 b)));go_wp2_with fail;clear lY lZ;refine (Jl (E3 (D9 0) (X7 (E3 (C4 (C6 (F0 b)) (C6 (F0 b))) (D9 1)) (C7 (C4 (C4 (C6 (F0 b)) (C6 (F0 b))) Ei) (D9 1)))) (C6 (F0 b)) rfl (F9 (F0 b)) lE).mono ?_;rintro e mA ⟨rfl,dL⟩;have lH:=J5 lF dL;have lI:=Nat.le_trans lG dL.size;have eU:=eQ.bl dL;have dC:=eR.bl dL;have eV:=dB.bl dL;have eW:=eS.bl dL;have eX:=eT.bl dL;have eY:=cZ.bl dL;clear dL lF lG eQ eR dB eS eT cZ
     obtain⟨mK,aQ⟩:=H8 (E0 mA ⟨w.heap.size+1,0,none⟩ (C9 (T8 (E3 (D9 0) (X7 (E3 (C4 (C6 (F0 b)) (C6 (F0 b))) (D9 1)) (C7 (C4 (C4 (C6 (F0 b)) (C6 (F0 b))) Ei) (D9 1)))) (C6 (F0 b))).row));have fZ:=Dl 20 aQ dC (by simp) ((U6 rfl (F9 (F0 b))).row);have jK:=I4 aQ eU (by omega);have jL:=I4 aQ eV (by omega);have jM:=I4 aQ eW (by omega);have jN:=I4 aQ eX (by omega);have jO:=I4 aQ eY (by omega);have jP:=Z9 aQ lH (by omega);have gD:=Ck 20 dC (by simp);have aA:(T8 (E3 (D9 0) (X7 (E3 (C4 (C6 (F0 b)) (C6 (F0 b))) (D9 1)) (C7 (C4 (C4 (C6 (F0 b)) (C6 (F0 b))) Ei) (D9 1)))) (C6 (F0 b))).row.length=20:=(U6 rfl (F9 (F0 b))).row;go_wp2_with fail;rw[←aQ];clear gD aA;have mB:=Gd aQ lI;clear aQ eU dC eV eW eX eY lH lI;have aU:(T8 (E3 (D9 0) (X7 (E3 (C4 (C6 (F0 b)) (C6 (F0 b))) (D9 1)) (C7 (C4 (C4 (C6 (F0 b)) (C6 (F0 b))) Ei) (D9 1)))) (C6 (F0 b))).row.length=20:=(U6 rfl (F9 (F0 b))).row;refine bodyPost_ret (v:=.tuple #[H7 (T8 (E3 (D9 0) (X7 (E3 (C4 (C6 (F0 b)) (C6 (F0 b))) (D9 1)) (C7 (C4 (C4 (C6 (F0 b)) (C6 (F0 b))) Ei) (D9 1)))) (C6 (F0 b))).row,.int .i64 0]) ?_ rfl ⟨?_,jP⟩
     ·refine M7 rfl ?_ ?_
      ·exact L6.row fZ rfl _ X3 rfl (by simp[Bt,aU])
      ·exact L6.tmp rfl
     ·rw[HE.out.1,HE.out.2];rfl
    case true=>
     have HE:=Lib.hid (B3x HO.out hx);obtain⟨mL,aR⟩:=H8 (E0 kX ⟨w.heap.size+1,0,none⟩ (C9 (I3 20)));have gE:=Dl 20 aR bJ (by simp) (by simp);have jQ:=I4 aR cU (by omega);have jR:=I4 aR cV (by omega);have jS:=I4 aR cW (by omega);have jT:=I4 aR cX (by omega);have jU:=I4 aR bK (by omega);have jV:=Z9 aR jJ (by omega);have gF:=Ck 20 bJ (by simp);have aA:(I3 20).length=20:=(show (I3 20).length=20 from by simp);go_wp2_with fail;rw[←aR];clear gF aA;have mD:=Gd aR iQ;clear aR iQ;have aU:(I3 20).length=20:=(show (I3 20).length=20 from by simp);refine bodyPost_ret (v:=.tuple #[H7 (I3 20),.int .i64 50]) ?_ rfl ⟨?_,jV⟩
     ·refine M7 rfl ?_ ?_
      ·exact L6.row gE rfl _ X3 rfl (by simp[Bt,aU])
      ·exact L6.tmp rfl
     ·rw[HE.out.1,HE.out.2];rfl
section
def Pl (ps:List Pn):List UInt64:=(ps.map Pn.row).flatten
def Hk (ps:List Pn):Prop:=∀p∈ps,p.Ok
theorem Q9:∀ {ps:List Pn},Hk ps→(Pl ps).length=ps.length*20
 | [],_=>rfl
 | p::ps,h=>by
  have h1:=Q9 (ps:=ps) fun q hq=>h q (by simp[hq]);have h2:=(h p (by simp)).row;show (p.row++Pl ps).length=_;rw[List.length_append,h1,h2,List.length_cons];omega
theorem B5z:∀ {ps:List Pn} (i:Nat),Hk ps→i<ps.length→((Pl ps).drop (i*20)).take 20=(ps.getD i Bg).row
 | p::ps,0,h,_=>by
  have h2:=(h p (by simp)).row;show (p.row++Pl ps).take 20=p.row;rw[List.take_append_of_le_length (by omega),List.take_of_length_le (by omega)]
 | p::ps,i+1,h,hi=>by
  have h2:=(h p (by simp)).row;have h1:=B5z (ps:=ps) i (fun q hq=>h q (by simp[hq])) (by simpa using hi);show ((p.row++Pl ps).drop ((i+1)*20)).take 20=_;rw[show (i+1)*20=p.row.length+i*20 by omega,List.drop_append,List.drop_eq_nil_of_le (by omega),List.nil_append,Nat.add_sub_cancel_left,h1];rfl
theorem B8i:∀ {ps:List Pn} (i:Nat) {q:Pn},Hk ps→q.Ok→i<ps.length→(Pl ps).take (i*20)++q.row++(Pl ps).drop (i*20+20)=Pl (ps.set i q)
 | p::ps,0,q,h,hq,_=>by
  have h2:=(h p (by simp)).row;show (p.row++Pl ps).take 0++q.row++(p.row++Pl ps).drop (0+20)=q.row++Pl ps;rw[show 0+20=p.row.length+0 by omega,List.drop_append];simp
 | p::ps,i+1,q,h,hq,hi=>by
  have h2:=(h p (by simp)).row;have h1:=B8i (ps:=ps) i (fun q hq=>h q (by simp[hq])) hq (by simpa using hi);show (p.row++Pl ps).take ((i+1)*20)++q.row++(p.row++Pl ps).drop ((i+1)*20+20)=p.row++Pl (ps.set i q);rw[←h1,show (i+1)*20+20=p.row.length+(i*20+20) by omega,List.drop_append,List.drop_eq_nil_of_le (by omega),List.nil_append,Nat.add_sub_cancel_left,show (i+1)*20=p.row.length+i*20 by omega,List.take_append,List.take_of_length_le (by omega),Nat.add_sub_cancel_left];simp
theorem Hk.set {ps:List Pn} (h:Hk ps) (i:Nat) {q:Pn} (hq:q.Ok):Hk (ps.set i q):=fun p hp=>by
 rcases List.mem_or_eq_of_mem_set hp with h1 | h1
 ·exact h p h1
 ·rw[h1];exact hq
theorem Hk.getD {ps:List Pn} (h:Hk ps) (i:Nat):(ps.getD i Bg).Ok:=by
 by_cases hi:i<ps.length
 ·rw[List.getD_eq_getElem?_getD,List.getElem?_eq_getElem hi];exact h _ (List.getElem_mem hi)
 ·rw[List.getD_eq_getElem?_getD,List.getElem?_eq_none (by omega)];exact Dh
def O9 (ps:List Pn) (i:Nat):Pn:=ps.getD i Bg
theorem Hk.at {ps:List Pn} (h:Hk ps) (i:Nat):(O9 ps i).Ok:=h.getD i
section
variable {w : World} {g : Nat} {t : TypeId} {ps : List Pn}
theorem Bk.plAt (K:Bk w g t (C9 (Pl ps))) (h:Hk ps) {i:Nat} (hi:i<ps.length):I6 w ⟨g,i*20,none⟩ 20=some (C9 (O9 ps i).row):=by
 show _=some (C9 (ps.getD i Bg).row);have hl:=Q9 h;rw[K.rowMid (i*20) 20 (by simp[hl];omega),←B5z i h hi];simp[C9]
theorem Bk.plCan (K:Bk w g t (C9 (Pl ps))) (h:Hk ps) {i:Nat} (hi:i<ps.length):P7 w ⟨g,i*20,none⟩ 20=true:=by
 have hl:=Q9 h;exact K.can (by simp[hl];omega)
theorem Bk.plPut (K:Bk w g t (C9 (Pl ps))) (h:Hk ps) {i:Nat} (hi:i<ps.length) {q:Pn} (hq:q.Ok):Bk (E0 w ⟨g,i*20,none⟩ (C9 q.row)) g t (C9 (Pl (ps.set i q))):=by
 have hl:=Q9 h;have h1:=K.put (o:=i*20) (vs:=C9 q.row) (by simp[hl,hq.row];omega);rw[←B8i i h hq hi];simpa [C9,hq.row] using h1
end
def Y5 (f:Nat→Pn) (n m:Nat):List Pn:=(List.range n).map fun i=>if i<m then f i else Bg
@[simp] theorem Uz (f : Nat → Pn) (n m : Nat) : (Y5 f n m).length = n := by simp [Y5]
theorem Aj {f:Nat→Pn} (hf:∀i,(f i).Ok) (n m:Nat):Hk (Y5 f n m):=fun p hp=>by
 obtain⟨i,_,rfl⟩:=List.mem_map.1 hp;split
 ·exact hf i
 ·exact Dh
theorem B7d {f:Nat→Pn} {n m i:Nat} (hi:i<n):(Y5 f n m).getD i Bg=if i<m then f i else Bg:=by
 rw[List.getD_eq_getElem?_getD];simp[Y5,hi]
theorem Wc {f:Nat→Pn} {n m i:Nat} (hi:i<n):O9 (Y5 f n m) i=if i<m then f i else Bg:=B7d hi
theorem Sg {f:Nat→Pn} {n m:Nat} (hm:m<n) {q:Pn} (hq:q=f m):(Y5 f n m).set m q=Y5 f n (m+1):=by
 subst hq;apply List.ext_getElem
 ·simp
 ·intro i h1 h2;simp only[Y5,List.getElem_set,List.getElem_map,List.getElem_range];by_cases e:m=i
  ·subst e;simp
  ·rw[if_neg e];by_cases h:i<m
   ·rw[if_pos h,if_pos (by omega)]
   ·rw[if_neg h,if_neg (by omega)]
theorem C7v (f:Nat→Pn):Pl (Y5 f 16 0)=I3 320:=by kernel_rfl
theorem C5r (f:Nat→Pn):Pl (Y5 f 32 0)=I3 640:=by kernel_rfl
def Si (n:List UInt8) (i:Nat):UInt8:=g8 n (i / 2) >>> UInt8.ofNat (4*(i % 2)) &&& 15
theorem A8v (n:List UInt8) (i:Nat):(Si n i).toNat<16:=by
 unfold Si;rw[UInt8.toNat_and];exact Nat.lt_of_le_of_lt Nat.and_le_right (by decide)
theorem B3a (n:List UInt8) (hn:n.length=32) (i:Nat) (hi:i<64) (w:World):Calls Tryz.prog 99 #[A8 n,.int .i64 (i:Int)] w fun e w'=>e=.returned (.int .u8 (n8 (Si n i)))∧Below w.heap.size w w':=by
 have aB:(i:Int) / 2=((i / 2:Nat):Int):=by omega
 have aC:(i:Int) % 2=((i % 2:Nat):Int):=by omega
 have aD:i / 2<32:=by omega
 have h2:i % 2<2:=by omega
 have k0:=(Bk.new w 23 (c8 n)).at_ (Ej (l:=n) (i:=i / 2) (by omega));obtain⟨D,hD⟩:=H8 (Si n i);have aA:D=g8 n (i / 2) >>> UInt8.ofNat (4*(i % 2)) &&& 15:=hD;have HD:=Lib.hid hD;rw[←hD];have HE:=Lib.hid aA;clear hD aA;have hB:Below w.heap.size w (w.alloc (Obj.cells (c8 n).toArray 23)):=Bi _ _;generalize i / 2=q at *;generalize i % 2=r at *;obtain⟨s,hs⟩:=H8 (4*r);have h4:4*(r:Int)=(s:Int):=by omega
 have aE:s<8:=by omega
 have HS:=Lib.hid hs;clear hs;go_enter Tryz.func99,Tryz.ntmps99;go_wp2_with fail;go_ret;exact ⟨by rw[HE.out,HS.out];rfl,hB⟩
end
def dg (n:List UInt8) (i:Nat):Nat:=(Si n i).toNat
theorem A6b (n:List UInt8) (i:Nat):dg n i<16:=A8v n i
theorem Ql (n:List UInt8) (hn:n.length=32) (i:Nat) (hi:i<64) (w:World):Calls Tryz.prog 99 #[A8 n,.int .i64 (i:Int)] w fun e w'=>e=.returned (.int .u8 ((dg n i:Nat):Int))∧Below w.heap.size w w':=B3a n hn i hi w
def Bo (p:Pn) (k:List UInt64):Nat→Pn
 | 0=>D8 Bg
 | 1=>D8 p
 | i+2=>T6 (Bo p k (i+1)) (D8 p) k
theorem Dx {p:Pn} (hp:p.Ok) (k:List UInt64):∀i,(Bo p k i).Ok
 | 0=>J6 Dh
 | 1=>J6 hp
 | i+2=>Bd _ _ _
def M5 (p:Pn) (k:List UInt64):List Pn:=Y5 (Bo p k) 16 16
theorem Y7 {p:Pn} (hp:p.Ok) (k:List UInt64):Hk (M5 p k):=Aj (Dx hp k) 16 16
@[simp, go_sem] theorem C2e (p : Pn) (k : List UInt64) : (M5 p k).length = 16 := Uz _ _ _
theorem Tp {p:Pn} {k:List UInt64} {i:Nat} (hi:i<16):O9 (M5 p k) i=Bo p k i:=by
 unfold M5;rw[Wc hi,if_pos hi]
theorem A6k (p:Pn) (k:List UInt64):((Y5 (Bo p k) 16 0).set 0 (D8 Bg)).set 1 (D8 p)=Y5 (Bo p k) 16 2:=by
 rw[Sg (f:=Bo p k) (by omega) (q:=D8 Bg) rfl,Sg (f:=Bo p k) (by omega) (q:=D8 p) rfl]
theorem B3k (p:Pn) (k:List UInt64) {j:Nat} (h1:1≤j) (h2:j<15):(Y5 (Bo p k) 16 (j+1)).set (j+1) (T6 (O9 (Y5 (Bo p k) 16 (j+1)) j) (O9 (Y5 (Bo p k) 16 (j+1)) 1) k)=Y5 (Bo p k) 16 (j+1+1):=by
 rw[Wc (by omega),Wc (by omega),if_pos (by omega),if_pos (by omega)];refine Sg (by omega) ?_;obtain⟨i,rfl⟩:∃i,j=i+1:=⟨j-1,by omega⟩;rfl
theorem Xl (p:Pn) (k:List UInt64) (hp:p.Ok) (hk:k.length=5) (w:World):Calls Tryz.prog 96 #[H7 p.row,H7 k] w fun e w'=>e=.returned (H7 (Pl (M5 p k)))∧Below w.heap.size w w':=by
 obtain⟨W0,cF⟩:=H8 ((((w.alloc (Obj.cells (C9 p.row).toArray 140)).alloc (Obj.cells (C9 k).toArray 138)).alloc (Obj.cells (C9 (I3 320)).toArray 177)));have hL:W0=M2 w [(140,(C9 p.row)),(138,(C9 k)),(177,(C9 (I3 320)))]:=cF;have B0:=Jc hL;have bA:=Jy hL rfl;have bB:=Gs 1 hL rfl;have bC:=Gs 2 hL rfl;have z0:=Vp 3 hL rfl;have cT:=SL' 3 hL rfl;clear hL;obtain⟨V1,aI⟩:=H8 (W0.alloc (Obj.cells (C9 (I3 320)).toArray 177));have cU:W0.heap.size=w.heap.size+3:=cT;have aF:Bk V1 (w.heap.size+3) 177 (C9 (I3 320)):=by rw[aI,←cU];exact Bk.new W0 _ _
 have aC:=Y3 aI bA;have aJ:=Y3 aI bB;have aK:=Y3 aI bC;have cV:=Jx aI B0;clear cU;go_enter Tryz.func96,Tryz.ntmps96;go_wp2_with fail;rw[←cF,←aI];have cW:=ZA' aI z0;clear cF aI cT bA bB bC B0 z0;rw[←C7v (Bo p k)]at aF;go_wp2_with fail;have S2:=Eo V1;refine Dm (fun W=>Bk W (w.heap.size) 140 (C9 p.row)) ?_;refine Cf (A:=?dJ) [0,2] (aC.drew) (fun W hW=>?dC) ?dK;case dC=>have f2:=Bk.row64 (n:=20) (hW) (hp.row);exact Dd
 refine J2 [zv 1 8 (H7 (D8 Bg).row),zv 3 10 (H7 (D8 p).row),zv 4 11 (.pointer (some ⟨w.heap.size+3,0,none⟩))] (by kernel_rfl) (fun W hW=>(aC.drew.bl hW)) ?bD ?bE ?bF;case bD=>exact Jz
 case bE=>
  refine (N7 ⟨?cG,(N7 ⟨?cH,(N7 ⟨?cI,Ik⟩)⟩)⟩);case cG=>
   exact Qj fun W=>Gy Bg Dh W
  case cH=>exact Hx fun W=>Gy p hp W
  case cI=>intro o ho us W hW hp Q' hQ';obtain rfl:=Option.some.inj ho;have bG:us 1=(H7 (D8 Bg).row):=hp 0 _ rfl (by kernel_rfl);clear hp ho;rw[C8]at hQ' ⊢;dsimp only[F8,I2,List.foldl,zv,za]at hQ' ⊢;simp only[Bu];rw[bG]at hQ' ⊢;clear bG;go_wp2_with fail;exact Cm (hQ' _ _ (Below.refl _ _) rfl nofun)
 case bF=>
 intro us W3 b4 hg aQ cJ;have bG:us 1=(H7 (D8 Bg).row):=hg _ (M6 0 rfl);have cX:us 3=(H7 (D8 p).row):=hg _ (M6 1 rfl);have aL:us 4=(.pointer (some ⟨w.heap.size+3,0,none⟩)):=hg _ (M6 2 rfl);have b5:=J5 S2 b4;refine Mu ?_;rw[bG,cX,aL];clear hg aQ cJ bG cX aL b4 S2;have B3:=J5 cV b5;have z3:=Nat.le_trans cW b5.size;have bH:=aC.bl b5;have bI:=aJ.bl b5;have bJ:=aK.bl b5;have aR:=aF.bl b5;clear b5 cV cW aC aJ aK aF;obtain⟨W6,aM⟩:=H8 (E0 W3 ⟨w.heap.size+3,0,none⟩ (C9 (D8 Bg).row));have aS:Bk W6 (w.heap.size+3) 177 (C9 (Pl ((Y5 (Bo p k) 16 0).set 0 (D8 Bg)))):=by rw[aM];exact Bk.plPut (i:=0) (aR) (Aj (Dx hp k) 16 0) (by simp;try omega) (J6 Dh)
 have aG:=I4 aM bH (by omega);have bK:=I4 aM bI (by omega);have bL:=I4 aM bJ (by omega);have B6:=Z9 aM B3 (by omega);have bM:P7 W3 ⟨w.heap.size+3,0,none⟩ 20=true:=Bk.plCan (i:=0) (aR) (Aj (Dx hp k) 16 0) (by simp;try omega);have bN:(D8 Bg).row.length=20:=(J6 Dh).row;refine U0 5 fun Q' hQ'=>?_;dsimp only[F8];go_wp2_with fail;rw[←aM];refine hQ' _ _ aG ?_;clear hQ' bM bN;have z6:=Gd aM z3;clear aM B3 z3 bH bI bJ aR;refine U0 6 fun Q' hQ'=>?_;dsimp only[F8];go_wp2_with fail;refine hQ' _ _ aG ?_;clear hQ';obtain⟨W7,aN⟩:=H8 (E0 W6 ⟨w.heap.size+3,20,none⟩ (C9 (D8 p).row));have bO:Bk W7 (w.heap.size+3) 177 (C9 (Pl (((Y5 (Bo p k) 16 0).set 0 (D8 Bg)).set 1 (D8 p)))):=by rw[aN];exact Bk.plPut (i:=1) (aS) ((Aj (Dx hp k) 16 0).set 0 (J6 Dh)) (by simp;try omega) (J6 hp)
 have aT:=I4 aN aG (by omega);have bP:=I4 aN bK (by omega);have bQ:=I4 aN bL (by omega);have B7:=Z9 aN B6 (by omega);have bR:P7 W6 ⟨w.heap.size+3,20,none⟩ 20=true:=Bk.plCan (i:=1) (aS) ((Aj (Dx hp k) 16 0).set 0 (J6 Dh)) (by simp;try omega);have bS:(D8 p).row.length=20:=(J6 hp).row;refine U0 7 fun Q' hQ'=>?_;dsimp only[F8];go_wp2_with fail;rw[←aN];refine hQ' _ _ aT ?_;clear hQ' bR bS;have z7:=Gd aN z6;clear aN B6 z6 aG bK bL aS;refine Cu ?_;go_wp2_with fail;go_loopw [6] (fun x6 wr=>∃j:Nat,1≤j∧j≤15∧x6=.int .i64 ((j:Int)+1)∧Bk wr (w.heap.size) 140 (C9 p.row)∧Bk wr (w.heap.size+1) 138 (C9 k)∧Bk wr (w.heap.size+2) 177 (C9 (I3 320))∧Bk wr (w.heap.size+3) 177 (C9 (Pl (Y5 (Bo p k) 16 (j+1))))∧Below w.heap.size w wr∧w.heap.size+3≤wr.heap.size) (fun x6 _=>16-(intOf x6).toNat)
 case atStart=>exact ⟨1,by omega,by omega,rfl,aT,bP,bQ,(A6k p k▸bO),B7,z7⟩
 case round=>
  clear B7 z7 aT bP bQ bO;obtain⟨j,dD,hj,rfl,aO,aD,aE,aA,cK,cL⟩:=hrel;by_cases hltj:j<15
  ·
   have hd:decide ((j:Int)+1<16)=true:=decide_eq_true (by omega);go_wp2_with fail;have S8:=Eo wr;refine Dm (fun W=>Bk W (w.heap.size+1) 138 (C9 k)) ?_;refine Cf (A:=?dL) [0,1,2,3,5,7] (aD.drew) (fun W hW=>?dE) ?dM;case dE=>have f7:=Bk.row64 (n:=5) (hW) (hk);exact Dd
   refine J2 [zv 4 21 (H7 (O9 (Y5 (Bo p k) 16 (j+1)) j).row),zv 6 23 (H7 (O9 (Y5 (Bo p k) 16 (j+1)) 1).row),zv 8 25 (H7 (T6 (O9 (Y5 (Bo p k) 16 (j+1)) j) (O9 (Y5 (Bo p k) 16 (j+1)) 1) k).row),zv 9 26 (.pointer (some ⟨w.heap.size+3,(j+1)*20,none⟩))] (by kernel_rfl) (fun W hW=>(aD.drew.bl hW)) ?bT ?bU ?bV;case bT=>exact Jz
   case bU=>
    refine (N7 ⟨?cM,(N7 ⟨?cN,(N7 ⟨?cO,(N7 ⟨?cP,Ik⟩)⟩)⟩)⟩);case cM=>
     intro o ho us W hW hp Q' hQ';obtain rfl:=Option.some.inj ho;clear hp ho;rw[C8]at hQ' ⊢;dsimp only[F8,I2,List.foldl,zv,za]at hQ' ⊢;simp only[Bu];have f4:=show I6 _ ⟨_,j*20,none⟩ 20=some (C9 (O9 (Y5 (Bo p k) 16 (j+1)) j).row) from Bk.plAt (i:=j) (aA.drew.bl hW) (Aj (Dx hp k) 16 (j+1)) (by simp;try omega);go_wp2_with fail;exact Cm (hQ' _ _ (Below.refl _ _) rfl nofun)
    case cN=>intro o ho us W hW hp Q' hQ';obtain rfl:=Option.some.inj ho;clear hp ho;rw[C8]at hQ' ⊢;dsimp only[F8,I2,List.foldl,zv,za]at hQ' ⊢;simp only[Bu];have f6:=show I6 _ ⟨_,20,none⟩ 20=some (C9 (O9 (Y5 (Bo p k) 16 (j+1)) 1).row) from Bk.plAt (i:=1) (aA.drew.bl hW) (Aj (Dx hp k) 16 (j+1)) (by simp;try omega);go_wp2_with fail;exact Cm (hQ' _ _ (Below.refl _ _) rfl nofun)
    case cO=>exact A3u fun W=>Ix (O9 (Y5 (Bo p k) 16 (j+1)) j) (O9 (Y5 (Bo p k) 16 (j+1)) 1) k ((Aj (Dx hp k) 16 (j+1)).at j) ((Aj (Dx hp k) 16 (j+1)).at 1) hk W
    case cP=>intro o ho us W hW hp Q' hQ';obtain rfl:=Option.some.inj ho;have aL:us 4=(H7 (O9 (Y5 (Bo p k) 16 (j+1)) j).row):=hp 0 _ rfl (by kernel_rfl);have bX:us 6=(H7 (O9 (Y5 (Bo p k) 16 (j+1)) 1).row):=hp 1 _ rfl (by kernel_rfl);have bY:us 8=(H7 (T6 (O9 (Y5 (Bo p k) 16 (j+1)) j) (O9 (Y5 (Bo p k) 16 (j+1)) 1) k).row):=hp 2 _ rfl (by kernel_rfl);clear hp ho;rw[C8]at hQ' ⊢;dsimp only[F8,I2,List.foldl,zv,za]at hQ' ⊢;simp only[Bu];rw[aL,bX,bY]at hQ' ⊢;clear aL bX bY;go_wp2_with fail;exact Cm (hQ' _ _ (Below.refl _ _) rfl nofun)
   case bV=>
   intro us W9 cY hg aQ cJ;have aL:us 4=(H7 (O9 (Y5 (Bo p k) 16 (j+1)) j).row):=hg _ (M6 0 rfl);have bX:us 6=(H7 (O9 (Y5 (Bo p k) 16 (j+1)) 1).row):=hg _ (M6 1 rfl);have bY:us 8=(H7 (T6 (O9 (Y5 (Bo p k) 16 (j+1)) j) (O9 (Y5 (Bo p k) 16 (j+1)) 1) k).row):=hg _ (M6 2 rfl);have cZ:us 9=(.pointer (some ⟨w.heap.size+3,(j+1)*20,none⟩)):=hg _ (M6 3 rfl);have aU:=J5 S8 cY;refine Mu ?_;rw[aL,bX,bY,cZ];clear hg aQ cJ aL bX bY cZ cY S8;have B9:=J5 cK aU;have z9:=Nat.le_trans cL aU.size;have bZ:=aO.bl aU;have cA:=aD.bl aU;have cB:=aE.bl aU;have aV:=aA.bl aU;clear aU cK cL aO aD aE aA;obtain⟨dF,aB⟩:=H8 (E0 W9 ⟨w.heap.size+3,(j+1)*20,none⟩ (C9 (T6 (O9 (Y5 (Bo p k) 16 (j+1)) j) (O9 (Y5 (Bo p k) 16 (j+1)) 1) k).row));have cC:Bk dF (w.heap.size+3) 177 (C9 (Pl ((Y5 (Bo p k) 16 (j+1)).set (j+1) (T6 (O9 (Y5 (Bo p k) 16 (j+1)) j) (O9 (Y5 (Bo p k) 16 (j+1)) 1) k)))):=by rw[aB];exact Bk.plPut (i:=(j+1)) (aV) (Aj (Dx hp k) 16 (j+1)) (by simp;try omega) (Bd (O9 (Y5 (Bo p k) 16 (j+1)) j) (O9 (Y5 (Bo p k) 16 (j+1)) 1) k)
   have cD:=I4 aB bZ (by omega);have aP:=I4 aB cA (by omega);have cE:=I4 aB cB (by omega);have dG:=Z9 aB B9 (by omega);have aW:P7 W9 ⟨w.heap.size+3,(j+1)*20,none⟩ 20=true:=Bk.plCan (i:=(j+1)) (aV) (Aj (Dx hp k) 16 (j+1)) (by simp;try omega);have aX:(T6 (O9 (Y5 (Bo p k) 16 (j+1)) j) (O9 (Y5 (Bo p k) 16 (j+1)) 1) k).row.length=20:=(Bd (O9 (Y5 (Bo p k) 16 (j+1)) j) (O9 (Y5 (Bo p k) 16 (j+1)) 1) k).row;refine U0 10 fun Q' hQ'=>?_;dsimp only[F8];go_wp2_with fail;rw[←aB];refine hQ' _ _ aP ?_;clear hQ' aW aX;have dH:=Gd aB z9;clear aB B9 z9 bZ cA cB aV;refine Cu ?_;go_wp2_with fail;go_roundw;case rel=>exact ⟨j+1,by omega,by omega,by go_num,cD,aP,cE,(B3k p k dD hltj▸cC),dG,dH⟩
   case measure=>simp[intOf];omega
  ·
   obtain rfl:j=15:=by omega
   have dB:((15:Nat):Int)+1=16:=rfl;rw[dB];clear dB;have dN:=Q9 (Y7 hp k);obtain⟨dO,aH⟩:=H8 (E0 wr ⟨w.heap.size+2,0,none⟩ (C9 (Pl (Y5 (Bo p k) 16 (15+1)))));have aY:=Dl 320 aH aE (by simp) (by rw[Q9 (Aj (Dx hp k) 16 (15+1))];simp);have cQ:=Z9 aH cK (by omega);have dI:=Bk.row64 (n:=320) (aA) ((show (Pl (Y5 (Bo p k) 16 (15+1))).length=320 from by rw[Q9 (Aj (Dx hp k) 16 (15+1))];simp));have aZ:=Ck 320 aE (by simp);have cR:(Pl (Y5 (Bo p k) 16 (15+1))).length=320:=(show (Pl (Y5 (Bo p k) 16 (15+1))).length=320 from by rw[Q9 (Aj (Dx hp k) 16 (15+1))];simp);go_wp2_with fail;rw[←aH];clear dI aZ cR;clear aH cL;have cS:(Pl (Y5 (Bo p k) 16 (15+1))).length=320:=(show (Pl (Y5 (Bo p k) 16 (15+1))).length=320 from by rw[Q9 (Aj (Dx hp k) 16 (15+1))];simp);refine bodyPost_ret (E5 rfl _ _ _ _ _ _ rfl aY Tryz.underlying177 rfl (by simp[Wk,cS])) rfl ⟨rfl,cQ⟩
end Go.Proofs.YtlegpkdighoflaaGreat
