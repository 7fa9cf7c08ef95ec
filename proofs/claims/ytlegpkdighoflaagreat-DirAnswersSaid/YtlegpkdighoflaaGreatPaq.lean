/- A part of the proof of DirAnswers. -/
import Derived.Test.YtlegpkdighoflaaGreatPap
set_option linter.unusedVariables false
set_option linter.unusedSimpArgs false
set_option maxRecDepth 100000
set_option maxHeartbeats 40000000
namespace Go.Proofs.YtlegpkdighoflaaGreat
open Go Go.RowKit Sh
def F8 (b:List UInt8):List UInt8:=b.set 31 (g8 b 31 &&& 127)
theorem Yf {b:List UInt8} (h:b.length=32):(F8 b).length=32:=by unfold F8;rw[List.length_set];exact h
def Xb (b:List UInt8):List UInt64:=C6 (F8 b)
theorem Yi (b:List UInt8):(Xb b).length=5:=H6 _
def B1i (b:List UInt8):List UInt64:=E4 (C4 (Xb b) (Xb b)) (E0 1)
def B1n (b:List UInt8):List UInt64:=C8 (C4 (C4 (Xb b) (Xb b)) Gg) (E0 1)
def Xn (b:List UInt8):List UInt64:=Z5 (B1i b) (B1n b)
def Lo (b:List UInt8):Bool:=g8 b 31 >>> 7==1
def Iq (b:List UInt8):Bool:=Mp (F8 b)&&(El (B1i b) (B1n b) && !(Lo b&&Q5 (Xn b)==z8 32))
def Ed (b:List UInt8):Pn:=if Iq b then Y0 (if Lo b then E4 (E0 0) (Xn b) else Xn b) (Xb b) else Co
def Zb (b:List UInt8):Int:=if Iq b then 0 else 50
theorem Kx (b:List UInt8):(Ed b).Ok:=by
 unfold Ed;split
 ·refine Y8 ?_ (Yi b);split
  ·rfl
  ·exact Y2 _ _
 ·exact Fg
theorem Zq {b:List UInt8} (h:Iq b=false):Ed b=Co∧Zb b=50:=by unfold Ed Zb;rw[if_neg (by rw[h];decide),if_neg (by rw[h];decide)];exact ⟨rfl,rfl⟩
theorem C6d {b:List UInt8} (h:Mp (F8 b)=false):Ed b=Co∧Zb b=50:=Zq (by unfold Iq;rw[h];rfl)
theorem C0m {b:List UInt8} (h:El (B1i b) (B1n b)=false):Ed b=Co∧Zb b=50:=Zq (by unfold Iq;rw[h];simp)
theorem C0z {b:List UInt8} (h:Lo b=true) (h2:(Q5 (Xn b)==z8 32)=true):Ed b=Co∧Zb b=50:=Zq (by unfold Iq;rw[h,h2];simp)
theorem C5v {b:List UInt8} (h0:Mp (F8 b)=true) (h1:El (B1i b) (B1n b)=true) (h:Lo b=false):Ed b=Y0 (Xn b) (Xb b)∧Zb b=0:=by
 have e:Iq b=true:=by unfold Iq;rw[h0,h1,h];rfl
 unfold Ed Zb;rw[if_pos e,if_pos e,if_neg (by rw[h];decide)];exact ⟨rfl,rfl⟩
theorem C9g {b:List UInt8} (h0:Mp (F8 b)=true) (h1:El (B1i b) (B1n b)=true) (h:Lo b=true) (h2:(Q5 (Xn b)==z8 32)=false):Ed b=Y0 (E4 (E0 0) (Xn b)) (Xb b)∧Zb b=0:=by
 have e:Iq b=true:=by unfold Iq;rw[h0,h1,h,h2];rfl
 unfold Ed Zb;rw[if_pos e,if_pos e,if_pos h];exact ⟨rfl,rfl⟩
theorem B4c (b:List UInt8) (hb:b.length=32) (w:World):Calls Tryz.prog 113 #[A8 b] w fun e w'=>e=.returned (.tuple #[H9 (Ed b).row,.int .i64 (Zb b)])∧Below w.heap.size w w':=by
 have lM:(n8 (g8 b 31 >>> 7)==1)=Lo b:=Ox (x:=g8 b 31 >>> 7) (y:=1);obtain⟨W0,gF⟩:=F9 (((w.alloc (Obj.cells (c8 b).toArray 23)).alloc (Obj.cells (C9 (J2 20)).toArray 140)));have hL:W0=M9 w [(23,(c8 b)),(140,(C9 (J2 20)))]:=gF;have B0:=Ki hL;have bN:=Ko hL rfl;have iT:=Ig 1 hL rfl;have z0:=Za 2 hL rfl;have lN:=SL' 2 hL rfl;clear hL;obtain⟨Vd,iO⟩:=F9 ((w.alloc (Obj.cells ((c8 b).set 31 (.int .u8 (n8 (g8 b 31 &&& 127)))).toArray 23)).alloc (Obj.cells (C9 (J2 20)).toArray 140));have gJ:Vd=M9 w [(23,((c8 b).set 31 (.int .u8 (n8 (g8 b 31 &&& 127))))),(140,C9 (J2 20))]:=iO;have jY:=Ki gJ;have bO:Bk Vd w.heap.size 23 (c8 (F8 b)):=by unfold F8;rw[←Fp,gJ];exact Z7 _ w 0 _ _ rfl
 have dM:=Ig 1 gJ rfl;have jZ:=Za 2 gJ rfl;clear gJ;have fB:=Bk.row8 (n:=32) bO (Yf hb);rw[iO]at fB;unfold F8 at fB;rw[←Fp]at fB;have f1:=(bN).at_ (Eb (l:=b) (i:=31) (by have hh:b.length=32:=hb;omega));rw[gF]at f1;have f2:=(bN).at_ (Eb (l:=b) (i:=31) (by have hh:b.length=32:=hb;omega));rw[gF]at f2;have kB:=bN.at_ (Eb (l:=b) (i:=31) (by omega));rw[gF]at kB;have kC:=bN.frozen 31;rw[gF]at kC;go_enter Tryz.func113,Tryz.ntmps113;go_wp2_with fail;rw[←iO];clear f1 f2 kB kC;clear gF iO lN bN iT B0 z0;clear fB;rw[Fp,show b.set 31 (g8 b 31 &&& 127)=F8 b from rfl];go_wp2_with fail;refine (A8e (F8 b) (Yf hb) Vd).mono ?_;rintro e W3 ⟨rfl,b4⟩;have B3:=K9 jY b4;have z3:=Nat.le_trans jZ b4.size;have dF:=bO.bl b4;have dG:=dM.bl b4;clear b4 jY jZ bO dM;clear lM;cases hok:Mp (F8 b);case false=>
  have HE:=Lib.hid (C6d hok);clear hok;obtain⟨V5,dH⟩:=F9 (W3.alloc (Obj.cells (C9 (J2 5)).toArray 138));have gK:W3.heap.size=W3.heap.size:=rfl;have bP:Bk V5 (W3.heap.size) 138 (C9 (J2 5)):=by rw[dH,←gK];exact Bk.new W3 _ _
  have dN:=Ac dH dF;have dO:=Ac dH dG;have kE:=Lk dH B3;have aD:=Aj gK dF;have aE:=Aj gK dG;have bQ:w.heap.size+2≤W3.heap.size:=by rw[←gK];exact Nat.le_trans z3 (Nat.le_refl _)
  clear gK;obtain⟨V6,dP⟩:=F9 (D8 V5 ⟨W3.heap.size,0,none⟩ (C9 (C6 (F8 b))));have dQ:=Fi 5 dP bP (by simp) (H6 (F8 b));have dR:=J3 dP dN (by omega);have bR:=J3 dP dO (by omega);have kF:=Bi dP kE (by omega);obtain⟨V7,fD⟩:=F9 (D8 V6 ⟨w.heap.size+1,0,none⟩ (C9 (J2 20)));have gL:=Fi 20 fD bR (by simp) (by simp);have kG:=J3 fD dR (by omega);have gM:=J3 fD dQ (by omega);have lO:=Bi fD kF (by omega);have dS:=Ee 5 bP (by simp);rw[dH]at dS;have dT:=Ee 20 bR (by simp);rw[dP,dH]at dT;have aA:(C6 (F8 b)).length=5:=(H6 (F8 b));have fE:(J2 20).length=20:=(show (J2 20).length=20 from by simp);go_wp2_with fail;rw[←dH,←dP,←fD];clear dS dT aA fE;obtain⟨p8,iU⟩:=F9 (W3.heap.size);rw[←iU]at gM aD aE bQ;try rw[←iU]
  have mH:w.heap.size+2≤V7.heap.size:=by have hz:=z3;rw[fD,dP,dH];first | (simp;omega) | (simp[World.setCell];omega)
  clear dH dP fD iU z3 dN dO bP kE dR bR dQ kF;have aU:(J2 20).length=20:=(show (J2 20).length=20 from by simp);refine bodyPost_ret (v:=.tuple #[H9 (J2 20),.int .i64 50]) ?_ rfl ⟨?_,lO⟩
  ·refine N9 rfl ?_ ?_
   ·exact M7.row gL rfl _ Z0 rfl (by simp[Dg,aU])
   ·exact M7.tmp rfl
  ·rw[HE.out.1,HE.out.2];rfl
 case true=>
  have HK:=Lib.hid hok;clear hok;have mI:=Yi b;obtain⟨V9,dD⟩:=F9 (W3.alloc (Obj.cells (C9 (J2 5)).toArray 138));have gN:W3.heap.size=W3.heap.size:=rfl;have bS:Bk V9 (W3.heap.size) 138 (C9 (J2 5)):=by rw[dD,←gN];exact Bk.new W3 _ _
  have dU:=Ac dD dF;have dV:=Ac dD dG;have kH:=Lk dD B3;have aD:=Aj gN dF;have aE:=Aj gN dG;have bQ:w.heap.size+2≤W3.heap.size:=by rw[←gN];exact Nat.le_trans z3 (Nat.le_refl _)
  clear gN;obtain⟨kI,aV⟩:=F9 (D8 V9 ⟨W3.heap.size,0,none⟩ (C9 (C6 (F8 b))));have aF:=Fi 5 aV bS (by simp) (H6 (F8 b));have bT:=J3 aV dU (by omega);have bU:=J3 aV dV (by omega);have gO:=Bi aV kH (by omega);have bV:=Ee 5 bS (by simp);rw[dD]at bV;have kJ:=Bk.row64 (n:=5) (aF) ((H6 (F8 b)));rw[aV,dD]at kJ;have kK:=Bk.row64 (n:=5) (aF) ((H6 (F8 b)));rw[aV,dD]at kK;have aA:(C6 (F8 b)).length=5:=(H6 (F8 b));go_wp2_with fail;rw[←dD,←aV];clear bV kJ kK aA;obtain⟨mJ,fF⟩:=F9 (W3.heap.size);rw[←fF]at aF aD aE bQ;try rw[←fF]
  have gP:w.heap.size+2≤kI.heap.size:=by have hz:=z3;rw[aV,dD];first | (simp;omega) | (simp[World.setCell];omega)
  clear dD aV fF z3 dU dV bS kH;refine (M8 (C6 (F8 b)) (C6 (F8 b)) (H6 (F8 b)) (H6 (F8 b)) kI).mono ?_;rintro e lP ⟨rfl,gG⟩;have kL:=K9 gO gG;have kM:=Nat.le_trans gP gG.size;have dW:=bT.bl gG;have dX:=bU.bl gG;have dY:=aF.bl gG;clear gG gO gP bT bU aF;go_wp2_with fail;refine (Le 1 lP).mono ?_;rintro e bM ⟨rfl,gH⟩;have kN:=K9 kL gH;have iP:=Nat.le_trans kM gH.size;have bX:=dW.bl gH;have bY:=dX.bl gH;have bZ:=dY.bl gH;clear gH kL kM dW dX dY;obtain⟨iQ,aG⟩:=F9 (bM.alloc (Obj.cells (C9 (J2 5)).toArray 138));have bL:bM.heap.size=bM.heap.size:=rfl;have aZ:Bk iQ (bM.heap.size) 138 (C9 (J2 5)):=by rw[aG,←bL];exact Bk.new bM _ _
  have bA:=Ac aG bX;have bB:=Ac aG bY;have bC:=Ac aG bZ;have gQ:=Lk aG kN;have cA:=Aj bL bX;have cB:=Aj bL bY;have cC:=Aj bL bZ;have gR:w.heap.size+2≤bM.heap.size:=by rw[←bL];exact Nat.le_trans iP (Nat.le_refl _)
  clear bL;obtain⟨kO,aH⟩:=F9 (iQ.alloc (Obj.cells (C9 (J2 5)).toArray 138));have aX:iQ.heap.size=bM.heap.size+1:=by rw[aG];simp
  have cD:Bk kO (bM.heap.size+1) 138 (C9 (J2 5)):=by rw[aH,←aX];exact Bk.new iQ _ _
  have cE:=Ac aH bA;have cF:=Ac aH bB;have cG:=Ac aH bC;have bD:=Ac aH aZ;have gS:=Lk aH gQ;have cH:=Aj aX bA;have cI:=Aj aX bB;have cJ:=Aj aX bC;have cK:=Aj aX aZ;have gT:w.heap.size+2≤bM.heap.size+1:=by rw[←aX];exact Nat.le_trans iP (by rw[aX];omega)
  clear aX;obtain⟨lQ,aL⟩:=F9 (D8 kO ⟨bM.heap.size,0,none⟩ (C9 (C4 (C6 (F8 b)) (C6 (F8 b)))));have cL:=Fi 5 aL bD (by simp) rfl;have cM:=J3 aL cE (by omega);have cN:=J3 aL cF (by omega);have cO:=J3 aL cG (by omega);have bE:=J3 aL cD (by omega);have gU:=Bi aL gS (by omega);obtain⟨kP,aW⟩:=F9 (D8 lQ ⟨bM.heap.size+1,0,none⟩ (C9 (E0 1)));have aB:=Fi 5 aW bE (by simp) rfl;have bF:=J3 aW cM (by omega);have bG:=J3 aW cN (by omega);have bH:=J3 aW cO (by omega);have aC:=J3 aW cL (by omega);have gV:=Bi aW gU (by omega);have cP:=Ee 5 bD (by simp);rw[aH,aG]at cP;have cQ:=Ee 5 bE (by simp);rw[aL,aH,aG]at cQ;have aA:(C4 (C6 (F8 b)) (C6 (F8 b))).length=5:=rfl;have fE:(E0 1).length=5:=rfl;go_wp2_with fail;rw[←aG,←aH,←aL,←aW];clear cP cQ aA fE;obtain⟨kQ,fG⟩:=F9 (bM.heap.size);rw[←fG]at aC aB cA cB cC gR cH cI cJ cK gT;try rw[←fG]
  have fH:w.heap.size+2≤kP.heap.size:=by have hz:=iP;rw[aW,aL,aH,aG];first | (simp;omega) | (simp[World.setCell];omega)
  clear aG aH aL aW fG bX bY bZ kN iP bA bB bC aZ gQ cE cF cG bD cD gS cM cN cO cL bE gU;have iV:=Fx kP;refine Fa (fun W=>Bk W (kQ) 138 (C9 (C4 (C6 (F8 b)) (C6 (F8 b))))∧Bk W (kQ+1) 138 (C9 (E0 1))) ?_;refine Df (A:=?lR) [0,1,3,6] ⟨(aC.drew),(aB.drew)⟩ (fun W hW=>?iW) ?lS;case iW=>
   have f0:=Bk.row64 (n:=5) (hW.1) (rfl);have f1:=Bk.row64 (n:=5) (hW.2) (rfl);exact Ei
  refine B3c [zv 2 33 (H9 (E4 (C4 (C6 (F8 b)) (C6 (F8 b))) (E0 1))),zv 4 35 (H9 Gg),zv 5 36 (H9 (C4 (C4 (C6 (F8 b)) (C6 (F8 b))) Gg)),zv 7 38 (H9 (C8 (C4 (C4 (C6 (F8 b)) (C6 (F8 b))) Gg) (E0 1))),zv 8 39 (.tuple #[(H9 (Z5 (E4 (C4 (C6 (F8 b)) (C6 (F8 b))) (E0 1)) (C8 (C4 (C4 (C6 (F8 b)) (C6 (F8 b))) Gg) (E0 1)))),(.bool (El (E4 (C4 (C6 (F8 b)) (C6 (F8 b))) (E0 1)) (C8 (C4 (C4 (C6 (F8 b)) (C6 (F8 b))) Gg) (E0 1))))]),zv 9 30 (.tuple #[(H9 (Z5 (E4 (C4 (C6 (F8 b)) (C6 (F8 b))) (E0 1)) (C8 (C4 (C4 (C6 (F8 b)) (C6 (F8 b))) Gg) (E0 1)))),(.bool (El (E4 (C4 (C6 (F8 b)) (C6 (F8 b))) (E0 1)) (C8 (C4 (C4 (C6 (F8 b)) (C6 (F8 b))) Gg) (E0 1))))]),zv 10 40 (H9 (Z5 (E4 (C4 (C6 (F8 b)) (C6 (F8 b))) (E0 1)) (C8 (C4 (C4 (C6 (F8 b)) (C6 (F8 b))) Gg) (E0 1)))),zv 11 41 (.bool (El (E4 (C4 (C6 (F8 b)) (C6 (F8 b))) (E0 1)) (C8 (C4 (C4 (C6 (F8 b)) (C6 (F8 b))) Gg) (E0 1)))),za 12 9 138 (C9 (J2 5))] (zv 11 41 (.bool (El (E4 (C4 (C6 (F8 b)) (C6 (F8 b))) (E0 1)) (C8 (C4 (C4 (C6 (F8 b)) (C6 (F8 b))) Gg) (E0 1))))) (O8 7 rfl) (by kernel_rfl) rfl rfl (by kernel_rfl) (by kernel_rfl) (by kernel_rfl) ?iX (fun W hW=>⟨(aC.drew.bl hW),(aB.drew.bl hW)⟩) ?fI ?fJ ?fK
  case fI=>exact Ln
  case fJ=>
   refine (P5 ⟨?gW,(P5 ⟨?gY,(P5 ⟨?gZ,(P5 ⟨?hF,(P5 ⟨?hJ,(P5 ⟨?hY,(P5 ⟨?fL,(P5 ⟨?fM,(P5 ⟨?fN,Kh⟩)⟩)⟩)⟩)⟩)⟩)⟩)⟩)⟩);case gW=>
    exact Tq fun W=>Ft (C4 (C6 (F8 b)) (C6 (F8 b))) (E0 1) rfl rfl W
   case gY=>exact Jt fun W=>C8h W
   case gZ=>exact A0t fun W=>M8 (C4 (C6 (F8 b)) (C6 (F8 b))) Gg rfl B2t W
   case hF=>exact B9e fun W=>Hk (C4 (C4 (C6 (F8 b)) (C6 (F8 b))) Gg) (E0 1) rfl rfl W
   case hJ=>intro o ho us W hW hp Q' hQ';obtain rfl:=Option.some.inj ho;have dZ:us 2=(H9 (E4 (C4 (C6 (F8 b)) (C6 (F8 b))) (E0 1))):=hp 0 _ rfl (by kernel_rfl);have iA:us 7=(H9 (C8 (C4 (C4 (C6 (F8 b)) (C6 (F8 b))) Gg) (E0 1))):=hp 3 _ rfl (by kernel_rfl);clear hp ho;rw[C7]at hQ' ⊢;dsimp only[F0,H8,List.foldl,zv,za]at hQ' ⊢;simp only[Ch];rw[dZ,iA]at hQ' ⊢;clear dZ iA;go_wp2_with fail;refine (B9v (E4 (C4 (C6 (F8 b)) (C6 (F8 b))) (E0 1)) (C8 (C4 (C4 (C6 (F8 b)) (C6 (F8 b))) Gg) (E0 1)) rfl rfl W).mono ?_;rintro e W2 ⟨rfl,b2⟩;go_wp2_with fail;exact Cz (hQ' _ _ b2 rfl nofun)
   case hY=>intro o ho us W hW hp Q' hQ';obtain rfl:=Option.some.inj ho;have iB:us 8=(.tuple #[(H9 (Z5 (E4 (C4 (C6 (F8 b)) (C6 (F8 b))) (E0 1)) (C8 (C4 (C4 (C6 (F8 b)) (C6 (F8 b))) Gg) (E0 1)))),(.bool (El (E4 (C4 (C6 (F8 b)) (C6 (F8 b))) (E0 1)) (C8 (C4 (C4 (C6 (F8 b)) (C6 (F8 b))) Gg) (E0 1))))]):=hp 4 _ rfl (by kernel_rfl);clear hp ho;rw[C7]at hQ' ⊢;dsimp only[F0,H8,List.foldl,zv,za]at hQ' ⊢;simp only[Ch];rw[iB]at hQ' ⊢;clear iB;go_wp2_with fail;exact Cz (hQ' _ _ (Below.refl _ _) rfl nofun)
   case fL=>intro o ho us W hW hp Q' hQ';obtain rfl:=Option.some.inj ho;have dE:us 9=(.tuple #[(H9 (Z5 (E4 (C4 (C6 (F8 b)) (C6 (F8 b))) (E0 1)) (C8 (C4 (C4 (C6 (F8 b)) (C6 (F8 b))) Gg) (E0 1)))),(.bool (El (E4 (C4 (C6 (F8 b)) (C6 (F8 b))) (E0 1)) (C8 (C4 (C4 (C6 (F8 b)) (C6 (F8 b))) Gg) (E0 1))))]):=hp 5 _ rfl (by kernel_rfl);clear hp ho;rw[C7]at hQ' ⊢;dsimp only[F0,H8,List.foldl,zv,za]at hQ' ⊢;simp only[Ch];rw[dE]at hQ' ⊢;clear dE;go_wp2_with fail;exact Cz (hQ' _ _ (Below.refl _ _) rfl nofun)
   case fM=>intro o ho us W hW hp Q' hQ';obtain rfl:=Option.some.inj ho;have dE:us 9=(.tuple #[(H9 (Z5 (E4 (C4 (C6 (F8 b)) (C6 (F8 b))) (E0 1)) (C8 (C4 (C4 (C6 (F8 b)) (C6 (F8 b))) Gg) (E0 1)))),(.bool (El (E4 (C4 (C6 (F8 b)) (C6 (F8 b))) (E0 1)) (C8 (C4 (C4 (C6 (F8 b)) (C6 (F8 b))) Gg) (E0 1))))]):=hp 5 _ rfl (by kernel_rfl);clear hp ho;rw[C7]at hQ' ⊢;dsimp only[F0,H8,List.foldl,zv,za]at hQ' ⊢;simp only[Ch];rw[dE]at hQ' ⊢;clear dE;go_wp2_with fail;exact Cz (hQ' _ _ (Below.refl _ _) rfl nofun)
   case fN=>exact P8 rfl rfl (fun ρ W=>Bg W ρ _ _ _ _ _)
  case iX=>
   intro us W hW hg;have dE:us 9=(.tuple #[(H9 (Z5 (E4 (C4 (C6 (F8 b)) (C6 (F8 b))) (E0 1)) (C8 (C4 (C4 (C6 (F8 b)) (C6 (F8 b))) Gg) (E0 1)))),(.bool (El (E4 (C4 (C6 (F8 b)) (C6 (F8 b))) (E0 1)) (C8 (C4 (C4 (C6 (F8 b)) (C6 (F8 b))) Gg) (E0 1))))]):=hg _ (O8 5 rfl) (show (9:Nat)≠11 by decide);refine ⟨_,rfl,fun W' hW'=>?_⟩;clear hg;refine Pv ?_;rw[dE];try simp only[Dh,List.getElem?_cons_zero,List.getElem?_cons_succ]
   repeat (go_big_quiet_step (fail))
   refine wpQuiet_nil ?_;kernel_rfl
  case fK=>
  intro us lT kR hg fO iR;have dZ:us 2=(H9 (E4 (C4 (C6 (F8 b)) (C6 (F8 b))) (E0 1))):=hg _ (O8 0 rfl);have kS:us 4=(H9 Gg):=hg _ (O8 1 rfl);have kT:us 5=(H9 (C4 (C4 (C6 (F8 b)) (C6 (F8 b))) Gg)):=hg _ (O8 2 rfl);have iA:us 7=(H9 (C8 (C4 (C4 (C6 (F8 b)) (C6 (F8 b))) Gg) (E0 1))):=hg _ (O8 3 rfl);have iB:us 8=(.tuple #[(H9 (Z5 (E4 (C4 (C6 (F8 b)) (C6 (F8 b))) (E0 1)) (C8 (C4 (C4 (C6 (F8 b)) (C6 (F8 b))) Gg) (E0 1)))),(.bool (El (E4 (C4 (C6 (F8 b)) (C6 (F8 b))) (E0 1)) (C8 (C4 (C4 (C6 (F8 b)) (C6 (F8 b))) Gg) (E0 1))))]):=hg _ (O8 4 rfl);have dE:us 9=(.tuple #[(H9 (Z5 (E4 (C4 (C6 (F8 b)) (C6 (F8 b))) (E0 1)) (C8 (C4 (C4 (C6 (F8 b)) (C6 (F8 b))) Gg) (E0 1)))),(.bool (El (E4 (C4 (C6 (F8 b)) (C6 (F8 b))) (E0 1)) (C8 (C4 (C4 (C6 (F8 b)) (C6 (F8 b))) Gg) (E0 1))))]):=hg _ (O8 5 rfl);have iC:us 10=(H9 (Z5 (E4 (C4 (C6 (F8 b)) (C6 (F8 b))) (E0 1)) (C8 (C4 (C4 (C6 (F8 b)) (C6 (F8 b))) Gg) (E0 1)))):=hg _ (O8 6 rfl);have iD:us 11=(.bool (El (E4 (C4 (C6 (F8 b)) (C6 (F8 b))) (E0 1)) (C8 (C4 (C4 (C6 (F8 b)) (C6 (F8 b))) Gg) (E0 1)))):=hg _ (O8 7 rfl);obtain⟨iE,cR,cS⟩:=hg _ (O8 8 rfl);have cR:us 12=.pointer (some ⟨iE,0,none⟩):=cR
  have bI:=Cc (iR _ (O8 8 rfl) rfl) cR;have eA:=K9 iV kR;have iF:=X3 bF bI.1;have iG:=X3 bG bI.1;have iH:=X3 bH bI.1;have iI:=X3 aC bI.1;have iJ:=X3 aB bI.1;have kU:w.heap.size+2≤iE:=Nat.le_trans fH (Nat.le_trans iV.size bI.1);clear bI;refine Pv ?_;rw[dZ,kS,kT,iA,iB,dE,iC,iD,cR];clear hg fO iR dZ kS kT iA iB dE iC iD cR kR iV;have kV:=K9 gV eA;have kY:=Nat.le_trans fH eA.size;have eB:=bF.bl eA;have eC:=bG.bl eA;have eD:=bH.bl eA;have eE:=aC.bl eA;have eF:=aB.bl eA;clear eA gV fH bF bG bH aC aB;obtain⟨iY,aM⟩:=F9 (D8 lT ⟨iE,0,none⟩ (C9 (Z5 (E4 (C4 (C6 (F8 b)) (C6 (F8 b))) (E0 1)) (C8 (C4 (C4 (C6 (F8 b)) (C6 (F8 b))) Gg) (E0 1)))));have aI:=Fi 5 aM cS (by simp) (Y2 (E4 (C4 (C6 (F8 b)) (C6 (F8 b))) (E0 1)) (C8 (C4 (C4 (C6 (F8 b)) (C6 (F8 b))) Gg) (E0 1)));have aY:=J3 aM eB (by omega);have aS:=J3 aM eC (by omega);have aT:=J3 aM eD (by omega);have aJ:=J3 aM eE (by omega);have aK:=J3 aM eF (by omega);have iK:=Bi aM kV (by omega);have fP:=Ee 5 cS (by simp)
  have fQ:(Z5 (E4 (C4 (C6 (F8 b)) (C6 (F8 b))) (E0 1)) (C8 (C4 (C4 (C6 (F8 b)) (C6 (F8 b))) Gg) (E0 1))).length=5:=(Y2 (E4 (C4 (C6 (F8 b)) (C6 (F8 b))) (E0 1)) (C8 (C4 (C4 (C6 (F8 b)) (C6 (F8 b))) Gg) (E0 1)));refine U7 13 fun Q' hQ'=>?_;dsimp only[F0];go_wp2_with fail;rw[←aM];refine hQ' _ _ ⟨aJ,aK⟩ ?_;clear hQ' fP fQ;have gI:=Il aM kY;clear aM kV kY eB eC eD eE eF cS;refine U7 14 fun Q' hQ'=>?_;dsimp only[F0];go_wp2_with fail;refine hQ' _ _ ⟨aJ,aK⟩ ?_;clear hQ';refine Ef ?_;have mK:(Xn b).length=5:=Y2 _ _;cases hr:El (E4 (C4 (C6 (F8 b)) (C6 (F8 b))) (E0 1)) (C8 (C4 (C4 (C6 (F8 b)) (C6 (F8 b))) Gg) (E0 1));case false=>
   have HE:=Lib.hid (C0m hr);clear hr;obtain⟨mL,aN⟩:=F9 (D8 iY ⟨w.heap.size+1,0,none⟩ (C9 (J2 20)));have fR:=Fi 20 aN aS (by simp) (by simp);have iZ:=J3 aN aY (by omega);have jA:=J3 aN aT (by omega);have jB:=J3 aN aJ (by omega);have jC:=J3 aN aK (by omega);have jD:=J3 aN aI (by omega);have jE:=Bi aN iK (by omega);have fS:=Ee 20 aS (by simp);have aA:(J2 20).length=20:=(show (J2 20).length=20 from by simp);go_wp2_with fail;rw[←aN];clear fS aA;have lU:=Il aN gI;clear aN gI;have aU:(J2 20).length=20:=(show (J2 20).length=20 from by simp);refine bodyPost_ret (v:=.tuple #[H9 (J2 20),.int .i64 50]) ?_ rfl ⟨?_,jE⟩
   ·refine N9 rfl ?_ ?_
    ·exact M7.row fR rfl _ Z0 rfl (by simp[Dg,aU])
    ·exact M7.tmp rfl
   ·rw[HE.out.1,HE.out.2];rfl
  case true=>
   have HR:=Lib.hid hr;clear hr;cases hod:Lo b;case false=>
    have HE:=Lib.hid (C5v HK.out HR.out hod);clear hod;have lV:=Bk.row64 (n:=5) (aI) ((Y2 (E4 (C4 (C6 (F8 b)) (C6 (F8 b))) (E0 1)) (C8 (C4 (C4 (C6 (F8 b)) (C6 (F8 b))) Gg) (E0 1))));have lX:=Bk.row64 (n:=5) (aT) ((H6 (F8 b)));go_wp2_with fail;clear lV lX;refine (Mh (Z5 (E4 (C4 (C6 (F8 b)) (C6 (F8 b))) (E0 1)) (C8 (C4 (C4 (C6 (F8 b)) (C6 (F8 b))) Gg) (E0 1))) (C6 (F8 b)) (Y2 (E4 (C4 (C6 (F8 b)) (C6 (F8 b))) (E0 1)) (C8 (C4 (C4 (C6 (F8 b)) (C6 (F8 b))) Gg) (E0 1))) (H6 (F8 b)) iY).mono ?_;rintro e Lh ⟨rfl,dI⟩;have kZ:=K9 iK dI;have Ss:=Nat.le_trans gI dI.size;have eG:=aY.bl dI;have cT:=aS.bl dI;have eH:=aT.bl dI;have eI:=aJ.bl dI;have eJ:=aK.bl dI;have eK:=aI.bl dI;clear dI iK gI aY aS aT aJ aK aI;obtain⟨mM,aO⟩:=F9 (D8 Lh ⟨w.heap.size+1,0,none⟩ (C9 (Y0 (Z5 (E4 (C4 (C6 (F8 b)) (C6 (F8 b))) (E0 1)) (C8 (C4 (C4 (C6 (F8 b)) (C6 (F8 b))) Gg) (E0 1))) (C6 (F8 b))).row));have fT:=Fi 20 aO cT (by simp) ((Y8 (Y2 (E4 (C4 (C6 (F8 b)) (C6 (F8 b))) (E0 1)) (C8 (C4 (C4 (C6 (F8 b)) (C6 (F8 b))) Gg) (E0 1))) (H6 (F8 b))).row);have jF:=J3 aO eG (by omega)
    have jG:=J3 aO eH (by omega);have jH:=J3 aO eI (by omega);have jI:=J3 aO eJ (by omega);have jJ:=J3 aO eK (by omega);have jK:=Bi aO kZ (by omega);have fU:=Ee 20 cT (by simp);have aA:(Y0 (Z5 (E4 (C4 (C6 (F8 b)) (C6 (F8 b))) (E0 1)) (C8 (C4 (C4 (C6 (F8 b)) (C6 (F8 b))) Gg) (E0 1))) (C6 (F8 b))).row.length=20:=(Y8 (Y2 (E4 (C4 (C6 (F8 b)) (C6 (F8 b))) (E0 1)) (C8 (C4 (C4 (C6 (F8 b)) (C6 (F8 b))) Gg) (E0 1))) (H6 (F8 b))).row;go_wp2_with fail;rw[←aO];clear fU aA;have lY:=Il aO Ss;clear aO eG cT eH eI eJ eK kZ Ss;have aU:(Y0 (Z5 (E4 (C4 (C6 (F8 b)) (C6 (F8 b))) (E0 1)) (C8 (C4 (C4 (C6 (F8 b)) (C6 (F8 b))) Gg) (E0 1))) (C6 (F8 b))).row.length=20:=(Y8 (Y2 (E4 (C4 (C6 (F8 b)) (C6 (F8 b))) (E0 1)) (C8 (C4 (C4 (C6 (F8 b)) (C6 (F8 b))) Gg) (E0 1))) (H6 (F8 b))).row;refine bodyPost_ret (v:=.tuple #[H9 (Y0 (Z5 (E4 (C4 (C6 (F8 b)) (C6 (F8 b))) (E0 1)) (C8 (C4 (C4 (C6 (F8 b)) (C6 (F8 b))) Gg) (E0 1))) (C6 (F8 b))).row,.int .i64 0]) ?_ rfl ⟨?_,jK⟩
    ·refine N9 rfl ?_ ?_
     ·exact M7.row fT rfl _ Z0 rfl (by simp[Dg,aU])
     ·exact M7.tmp rfl
    ·rw[HE.out.1,HE.out.2];rfl
   case true=>
    have HO:=Lib.hid hod;clear hod;have lZ:=Bk.row64 (n:=5) (aI) ((Y2 (E4 (C4 (C6 (F8 b)) (C6 (F8 b))) (E0 1)) (C8 (C4 (C4 (C6 (F8 b)) (C6 (F8 b))) Gg) (E0 1))));go_wp2_with fail;clear lZ;refine (Fb (Z5 (E4 (C4 (C6 (F8 b)) (C6 (F8 b))) (E0 1)) (C8 (C4 (C4 (C6 (F8 b)) (C6 (F8 b))) Gg) (E0 1))) (Y2 (E4 (C4 (C6 (F8 b)) (C6 (F8 b))) (E0 1)) (C8 (C4 (C4 (C6 (F8 b)) (C6 (F8 b))) Gg) (E0 1))) iY).mono ?_;rintro e lA ⟨rfl,dJ⟩;have jL:=K9 iK dJ;have iS:=Nat.le_trans gI dJ.size;have cU:=aY.bl dJ;have bJ:=aS.bl dJ;have cV:=aT.bl dJ;have cW:=aJ.bl dJ;have cX:=aK.bl dJ;have bK:=aI.bl dJ;clear dJ iK gI aY aS aT aJ aK aI;cases hx:(Q5 (Z5 (E4 (C4 (C6 (F8 b)) (C6 (F8 b))) (E0 1)) (C8 (C4 (C4 (C6 (F8 b)) (C6 (F8 b))) Gg) (E0 1)))==z8 32);case false=>
     have HE:=Lib.hid (C9g HK.out HR.out HO.out hx);go_wp2_with fail;have lB:=Fx lA;refine Fa (fun W=>True) ?_;refine J8 [zv 0 55 (H9 (E0 0)),zv 1 56 (H9 (Z5 (E4 (C4 (C6 (F8 b)) (C6 (F8 b))) (E0 1)) (C8 (C4 (C4 (C6 (F8 b)) (C6 (F8 b))) Gg) (E0 1)))),zv 2 57 (H9 (E4 (E0 0) (Z5 (E4 (C4 (C6 (F8 b)) (C6 (F8 b))) (E0 1)) (C8 (C4 (C4 (C6 (F8 b)) (C6 (F8 b))) Gg) (E0 1)))))] (by kernel_rfl) (fun W hW=>trivial) ?fV ?fW ?fX;case fV=>exact Ln
     case fW=>
      refine (P5 ⟨?iL,(P5 ⟨?iM,(P5 ⟨?iN,Kh⟩)⟩)⟩);case iL=>
       exact Tq fun W=>Le 0 W
      case iM=>intro o ho us W hW hp Q' hQ';obtain rfl:=Option.some.inj ho;clear hp ho;rw[C7]at hQ' ⊢;dsimp only[F0,H8,List.foldl,zv,za]at hQ' ⊢;simp only[Ch];have f1:=Bk.row64 (n:=5) (bK.drew.bl hW) ((Y2 (E4 (C4 (C6 (F8 b)) (C6 (F8 b))) (E0 1)) (C8 (C4 (C4 (C6 (F8 b)) (C6 (F8 b))) Gg) (E0 1))));go_wp2_with fail;exact Cz (hQ' _ _ (Below.refl _ _) rfl nofun)
      case iN=>exact A7s fun W=>Ft (E0 0) (Z5 (E4 (C4 (C6 (F8 b)) (C6 (F8 b))) (E0 1)) (C8 (C4 (C4 (C6 (F8 b)) (C6 (F8 b))) Gg) (E0 1))) rfl (Y2 (E4 (C4 (C6 (F8 b)) (C6 (F8 b))) (E0 1)) (C8 (C4 (C4 (C6 (F8 b)) (C6 (F8 b))) Gg) (E0 1))) W
     case fX=>
     intro us mA lC hg fO iR;have lD:us 0=(H9 (E0 0)):=hg _ (O8 0 rfl);have lE:us 1=(H9 (Z5 (E4 (C4 (C6 (F8 b)) (C6 (F8 b))) (E0 1)) (C8 (C4 (C4 (C6 (F8 b)) (C6 (F8 b))) Gg) (E0 1)))):=hg _ (O8 1 rfl);have dZ:us 2=(H9 (E4 (E0 0) (Z5 (E4 (C4 (C6 (F8 b)) (C6 (F8 b))) (E0 1)) (C8 (C4 (C4 (C6 (F8 b)) (C6 (F8 b))) Gg) (E0 1))))):=hg _ (O8 2 rfl);have dK:=K9 lB lC;refine Pv ?_;rw[lD,lE,dZ];clear hg fO iR lD lE dZ lC lB;have lF:=K9 jL dK;have lG:=Nat.le_trans iS dK.size;have eL:=cU.bl dK;have eM:=bJ.bl dK;have eN:=cV.bl dK;have eO:=cW.bl dK;have eP:=cX.bl dK;have cY:=bK.bl dK;clear dK jL iS cU bJ cV cW cX bK;obtain⟨lH,aP⟩:=F9 (D8 mA ⟨iE,0,none⟩ (C9 (E4 (E0 0) (Z5 (E4 (C4 (C6 (F8 b)) (C6 (F8 b))) (E0 1)) (C8 (C4 (C4 (C6 (F8 b)) (C6 (F8 b))) Gg) (E0 1))))));have cZ:Bk lH (iE) 138 (C9 (E4 (E0 0) (Z5 (E4 (C4 (C6 (F8 b)) (C6 (F8 b))) (E0 1)) (C8 (C4 (C4 (C6 (F8 b)) (C6 (F8 b))) Gg) (E0 1))))):=by rw[aP];exact Bk.put64 (cY) ((Y2 (E4 (C4 (C6 (F8 b)) (C6 (F8 b))) (E0 1)) (C8 (C4 (C4 (C6 (F8 b)) (C6 (F8 b))) Gg) (E0 1)))) (rfl)
     have eQ:=J3 aP eL (by omega);have eS:=J3 aP eM (by omega);have dB:=J3 aP eN (by omega);have eT:=J3 aP eO (by omega);have eU:=J3 aP eP (by omega);have lI:=Bi aP lF (by omega);have fY:=Ee 5 cY (Y2 (E4 (C4 (C6 (F8 b)) (C6 (F8 b))) (E0 1)) (C8 (C4 (C4 (C6 (F8 b)) (C6 (F8 b))) Gg) (E0 1)));have fZ:(E4 (E0 0) (Z5 (E4 (C4 (C6 (F8 b)) (C6 (F8 b))) (E0 1)) (C8 (C4 (C4 (C6 (F8 b)) (C6 (F8 b))) Gg) (E0 1)))).length=5:=rfl;refine U7 3 fun Q' hQ'=>?_;dsimp only[F0];go_wp2_with fail;rw[←aP];refine hQ' _ _ trivial ?_;clear hQ' fY fZ;have lJ:=Il aP lG;clear aP lF lG eL eM eN eO eP cY;refine Ef ?_;have mB:=Bk.row64 (n:=5) (cZ) (rfl);have mD:=Bk.row64 (n:=5) (dB) ((H6 (F8 b)));go_wp2_with fail;clear mB mD;refine (Mh (E4 (E0 0) (Z5 (E4 (C4 (C6 (F8 b)) (C6 (F8 b))) (E0 1)) (C8 (C4 (C4 (C6 (F8 b)) (C6 (F8 b))) Gg) (E0 1)))) (C6 (F8 b)) rfl (H6 (F8 b)) lH).mono ?_;rintro e mE ⟨rfl,dL⟩;have lK:=K9 lI dL;have lL:=Nat.le_trans lJ dL.size;have eV:=eQ.bl dL;have dC:=eS.bl dL;have eX:=dB.bl dL;have eY:=eT.bl dL;have eZ:=eU.bl dL;have fC:=cZ.bl dL;clear dL lI lJ eQ eS dB eT eU cZ
     obtain⟨mN,aQ⟩:=F9 (D8 mE ⟨w.heap.size+1,0,none⟩ (C9 (Y0 (E4 (E0 0) (Z5 (E4 (C4 (C6 (F8 b)) (C6 (F8 b))) (E0 1)) (C8 (C4 (C4 (C6 (F8 b)) (C6 (F8 b))) Gg) (E0 1)))) (C6 (F8 b))).row));have gA:=Fi 20 aQ dC (by simp) ((Y8 rfl (H6 (F8 b))).row);have jM:=J3 aQ eV (by omega);have jN:=J3 aQ eX (by omega);have jO:=J3 aQ eY (by omega);have jP:=J3 aQ eZ (by omega);have jQ:=J3 aQ fC (by omega);have jR:=Bi aQ lK (by omega);have gB:=Ee 20 dC (by simp);have aA:(Y0 (E4 (E0 0) (Z5 (E4 (C4 (C6 (F8 b)) (C6 (F8 b))) (E0 1)) (C8 (C4 (C4 (C6 (F8 b)) (C6 (F8 b))) Gg) (E0 1)))) (C6 (F8 b))).row.length=20:=(Y8 rfl (H6 (F8 b))).row;go_wp2_with fail;rw[←aQ];clear gB aA;have mF:=Il aQ lL;clear aQ eV dC eX eY eZ fC lK lL;have aU:(Y0 (E4 (E0 0) (Z5 (E4 (C4 (C6 (F8 b)) (C6 (F8 b))) (E0 1)) (C8 (C4 (C4 (C6 (F8 b)) (C6 (F8 b))) Gg) (E0 1)))) (C6 (F8 b))).row.length=20:=(Y8 rfl (H6 (F8 b))).row;refine bodyPost_ret (v:=.tuple #[H9 (Y0 (E4 (E0 0) (Z5 (E4 (C4 (C6 (F8 b)) (C6 (F8 b))) (E0 1)) (C8 (C4 (C4 (C6 (F8 b)) (C6 (F8 b))) Gg) (E0 1)))) (C6 (F8 b))).row,.int .i64 0]) ?_ rfl ⟨?_,jR⟩
     ·refine N9 rfl ?_ ?_
      ·exact M7.row gA rfl _ Z0 rfl (by simp[Dg,aU])
      ·exact M7.tmp rfl
     ·rw[HE.out.1,HE.out.2];rfl
    case true=>
     have HE:=Lib.hid (C0z HO.out hx);obtain⟨mO,aR⟩:=F9 (D8 lA ⟨w.heap.size+1,0,none⟩ (C9 (J2 20)));have gC:=Fi 20 aR bJ (by simp) (by simp);have jS:=J3 aR cU (by omega);have jT:=J3 aR cV (by omega);have jU:=J3 aR cW (by omega);have jV:=J3 aR cX (by omega);have jW:=J3 aR bK (by omega);have jX:=Bi aR jL (by omega);have gE:=Ee 20 bJ (by simp);have aA:(J2 20).length=20:=(show (J2 20).length=20 from by simp);go_wp2_with fail;rw[←aR];clear gE aA;have mG:=Il aR iS;clear aR iS;have aU:(J2 20).length=20:=(show (J2 20).length=20 from by simp);refine bodyPost_ret (v:=.tuple #[H9 (J2 20),.int .i64 50]) ?_ rfl ⟨?_,jX⟩
     ·refine N9 rfl ?_ ?_
      ·exact M7.row gC rfl _ Z0 rfl (by simp[Dg,aU])
      ·exact M7.tmp rfl
     ·rw[HE.out.1,HE.out.2];rfl
section
def Pl (ps:List Pn):List UInt64:=(ps.map Pn.row).flatten
def Jy (ps:List Pn):Prop:=∀p∈ps,p.Ok
theorem X4:∀ {ps:List Pn},Jy ps→(Pl ps).length=ps.length*20
 | [],_=>rfl
 | p::ps,h=>by
  have h1:=X4 (ps:=ps) fun q hq=>h q (by simp[hq]);have h2:=(h p (by simp)).row;show (p.row++Pl ps).length=_;rw[List.length_append,h1,h2,List.length_cons];omega
theorem C5s:∀ {ps:List Pn} (i:Nat),Jy ps→i<ps.length→((Pl ps).drop (i*20)).take 20=(ps.getD i Co).row
 | p::ps,0,h,_=>by
  have h2:=(h p (by simp)).row;show (p.row++Pl ps).take 20=p.row;rw[List.take_append_of_le_length (by omega),List.take_of_length_le (by omega)]
 | p::ps,i+1,h,hi=>by
  have h2:=(h p (by simp)).row;have h1:=C5s (ps:=ps) i (fun q hq=>h q (by simp[hq])) (by simpa using hi);show ((p.row++Pl ps).drop ((i+1)*20)).take 20=_;rw[show (i+1)*20=p.row.length+i*20 by omega,List.drop_append,List.drop_eq_nil_of_le (by omega),List.nil_append,Nat.add_sub_cancel_left,h1];rfl
theorem C1p:∀ {ps:List Pn} (i:Nat) {q:Pn},Jy ps→q.Ok→i<ps.length→(Pl ps).take (i*20)++q.row++(Pl ps).drop (i*20+20)=Pl (ps.set i q)
 | p::ps,0,q,h,hq,_=>by
  have h2:=(h p (by simp)).row;show (p.row++Pl ps).take 0++q.row++(p.row++Pl ps).drop (0+20)=q.row++Pl ps;rw[show 0+20=p.row.length+0 by omega,List.drop_append];simp
 | p::ps,i+1,q,h,hq,hi=>by
  have h2:=(h p (by simp)).row;have h1:=C1p (ps:=ps) i (fun q hq=>h q (by simp[hq])) hq (by simpa using hi);show (p.row++Pl ps).take ((i+1)*20)++q.row++(p.row++Pl ps).drop ((i+1)*20+20)=p.row++Pl (ps.set i q);rw[←h1,show (i+1)*20+20=p.row.length+(i*20+20) by omega,List.drop_append,List.drop_eq_nil_of_le (by omega),List.nil_append,Nat.add_sub_cancel_left,show (i+1)*20=p.row.length+i*20 by omega,List.take_append,List.take_of_length_le (by omega),Nat.add_sub_cancel_left];simp
theorem Jy.set {ps:List Pn} (h:Jy ps) (i:Nat) {q:Pn} (hq:q.Ok):Jy (ps.set i q):=fun p hp=>by
 rcases List.mem_or_eq_of_mem_set hp with h1 | h1
 ·exact h p h1
 ·rw[h1];exact hq
theorem Jy.getD {ps:List Pn} (h:Jy ps) (i:Nat):(ps.getD i Co).Ok:=by
 by_cases hi:i<ps.length
 ·rw[List.getD_eq_getElem?_getD,List.getElem?_eq_getElem hi];exact h _ (List.getElem_mem hi)
 ·rw[List.getD_eq_getElem?_getD,List.getElem?_eq_none (by omega)];exact Fg
def Q8 (ps:List Pn) (i:Nat):Pn:=ps.getD i Co
theorem Jy.at {ps:List Pn} (h:Jy ps) (i:Nat):(Q8 ps i).Ok:=h.getD i
section
variable {w : World} {g : Nat} {t : TypeId} {ps : List Pn}
theorem Bk.plAt (K:Bk w g t (C9 (Pl ps))) (h:Jy ps) {i:Nat} (hi:i<ps.length):J1 w ⟨g,i*20,none⟩ 20=some (C9 (Q8 ps i).row):=by
 show _=some (C9 (ps.getD i Co).row);have hl:=X4 h;rw[K.rowMid (i*20) 20 (by simp[hl];omega),←C5s i h hi];simp[C9]
theorem Bk.plCan (K:Bk w g t (C9 (Pl ps))) (h:Jy ps) {i:Nat} (hi:i<ps.length):T5 w ⟨g,i*20,none⟩ 20=true:=by
 have hl:=X4 h;exact K.can (by simp[hl];omega)
theorem Bk.plPut (K:Bk w g t (C9 (Pl ps))) (h:Jy ps) {i:Nat} (hi:i<ps.length) {q:Pn} (hq:q.Ok):Bk (D8 w ⟨g,i*20,none⟩ (C9 q.row)) g t (C9 (Pl (ps.set i q))):=by
 have hl:=X4 h;have h1:=K.put (o:=i*20) (vs:=C9 q.row) (by simp[hl,hq.row];omega);rw[←C1p i h hq hi];simpa [C9,hq.row] using h1
end
def Ai (f:Nat→Pn) (n m:Nat):List Pn:=(List.range n).map fun i=>if i<m then f i else Co
@[simp] theorem Xq (f : Nat → Pn) (n m : Nat) : (Ai f n m).length = n := by simp [Ai]
theorem Cd {f:Nat→Pn} (hf:∀i,(f i).Ok) (n m:Nat):Jy (Ai f n m):=fun p hp=>by
 obtain⟨i,_,rfl⟩:=List.mem_map.1 hp;split
 ·exact hf i
 ·exact Fg
theorem C5j {f:Nat→Pn} {n m i:Nat} (hi:i<n):(Ai f n m).getD i Co=if i<m then f i else Co:=by
 rw[List.getD_eq_getElem?_getD];simp[Ai,hi]
theorem Zi {f:Nat→Pn} {n m i:Nat} (hi:i<n):Q8 (Ai f n m) i=if i<m then f i else Co:=C5j hi
theorem Uo {f:Nat→Pn} {n m:Nat} (hm:m<n) {q:Pn} (hq:q=f m):(Ai f n m).set m q=Ai f n (m+1):=by
 subst hq;apply List.ext_getElem
 ·simp
 ·intro i h1 h2;simp only[Ai,List.getElem_set,List.getElem_map,List.getElem_range];by_cases e:m=i
  ·subst e;simp
  ·rw[if_neg e];by_cases h:i<m
   ·rw[if_pos h,if_pos (by omega)]
   ·rw[if_neg h,if_neg (by omega)]
theorem D4i (f:Nat→Pn):Pl (Ai f 16 0)=J2 320:=by kernel_rfl
theorem D5q (f:Nat→Pn):Pl (Ai f 32 0)=J2 640:=by kernel_rfl
def Uy (n:List UInt8) (i:Nat):UInt8:=g8 n (i / 2) >>> UInt8.ofNat (4*(i % 2)) &&& 15
theorem B4j (n:List UInt8) (i:Nat):(Uy n i).toNat<16:=by
 unfold Uy;rw[UInt8.toNat_and];exact Nat.lt_of_le_of_lt Nat.and_le_right (by decide)
theorem B9s (n:List UInt8) (hn:n.length=32) (i:Nat) (hi:i<64) (w:World):Calls Tryz.prog 99 #[A8 n,.int .i64 (i:Int)] w fun e w'=>e=.returned (.int .u8 (n8 (Uy n i)))∧Below w.heap.size w w':=by
 have aB:(i:Int) / 2=((i / 2:Nat):Int):=by omega
 have aC:(i:Int) % 2=((i % 2:Nat):Int):=by omega
 have aD:i / 2<32:=by omega
 have h2:i % 2<2:=by omega
 have k0:=(Bk.new w 23 (c8 n)).at_ (Eb (l:=n) (i:=i / 2) (by omega));obtain⟨D,hD⟩:=F9 (Uy n i);have aA:D=g8 n (i / 2) >>> UInt8.ofNat (4*(i % 2)) &&& 15:=hD;have HD:=Lib.hid hD;rw[←hD];have HE:=Lib.hid aA;clear hD aA;have hB:Below w.heap.size w (w.alloc (Obj.cells (c8 n).toArray 23)):=Aw _ _;generalize i / 2=q at *;generalize i % 2=r at *;obtain⟨s,hs⟩:=F9 (4*r);have h4:4*(r:Int)=(s:Int):=by omega
 have aE:s<8:=by omega
 have HS:=Lib.hid hs;clear hs;go_enter Tryz.func99,Tryz.ntmps99;go_wp2_with fail;go_ret;exact ⟨by rw[HE.out,HS.out];rfl,hB⟩
end
def dg (n:List UInt8) (i:Nat):Nat:=(Uy n i).toNat
theorem A8z (n:List UInt8) (i:Nat):dg n i<16:=B4j n i
theorem Ts (n:List UInt8) (hn:n.length=32) (i:Nat) (hi:i<64) (w:World):Calls Tryz.prog 99 #[A8 n,.int .i64 (i:Int)] w fun e w'=>e=.returned (.int .u8 ((dg n i:Nat):Int))∧Below w.heap.size w w':=B9s n hn i hi w
def Cw (p:Pn) (k:List UInt64):Nat→Pn
 | 0=>D9 Co
 | 1=>D9 p
 | i+2=>X8 (Cw p k (i+1)) (D9 p) k
theorem Fq {p:Pn} (hp:p.Ok) (k:List UInt64):∀i,(Cw p k i).Ok
 | 0=>M1 Fg
 | 1=>M1 hp
 | i+2=>Cp _ _ _
def O9 (p:Pn) (k:List UInt64):List Pn:=Ai (Cw p k) 16 16
theorem Av {p:Pn} (hp:p.Ok) (k:List UInt64):Jy (O9 p k):=Cd (Fq hp k) 16 16
@[simp, go_sem] theorem C8l (p : Pn) (k : List UInt64) : (O9 p k).length = 16 := Xq _ _ _
theorem Wx {p:Pn} {k:List UInt64} {i:Nat} (hi:i<16):Q8 (O9 p k) i=Cw p k i:=by
 unfold O9;rw[Zi hi,if_pos hi]
theorem B1u (p:Pn) (k:List UInt64):((Ai (Cw p k) 16 0).set 0 (D9 Co)).set 1 (D9 p)=Ai (Cw p k) 16 2:=by
 rw[Uo (f:=Cw p k) (by omega) (q:=D9 Co) rfl,Uo (f:=Cw p k) (by omega) (q:=D9 p) rfl]
theorem B7m (p:Pn) (k:List UInt64) {j:Nat} (h1:1≤j) (h2:j<15):(Ai (Cw p k) 16 (j+1)).set (j+1) (X8 (Q8 (Ai (Cw p k) 16 (j+1)) j) (Q8 (Ai (Cw p k) 16 (j+1)) 1) k)=Ai (Cw p k) 16 (j+1+1):=by
 rw[Zi (by omega),Zi (by omega),if_pos (by omega),if_pos (by omega)];refine Uo (by omega) ?_;obtain⟨i,rfl⟩:∃i,j=i+1:=⟨j-1,by omega⟩;rfl
theorem A0r (p:Pn) (k:List UInt64) (hp:p.Ok) (hk:k.length=5) (w:World):Calls Tryz.prog 96 #[H9 p.row,H9 k] w fun e w'=>e=.returned (H9 (Pl (O9 p k)))∧Below w.heap.size w w':=by
 obtain⟨W0,cF⟩:=F9 ((((w.alloc (Obj.cells (C9 p.row).toArray 140)).alloc (Obj.cells (C9 k).toArray 138)).alloc (Obj.cells (C9 (J2 320)).toArray 177)));have hL:W0=M9 w [(140,(C9 p.row)),(138,(C9 k)),(177,(C9 (J2 320)))]:=cF;have B0:=Ki hL;have bA:=Ko hL rfl;have bB:=Ig 1 hL rfl;have bC:=Ig 2 hL rfl;have z0:=Za 3 hL rfl;have cT:=SL' 3 hL rfl;clear hL;obtain⟨V1,aI⟩:=F9 (W0.alloc (Obj.cells (C9 (J2 320)).toArray 177));have cU:W0.heap.size=w.heap.size+3:=cT;have aF:Bk V1 (w.heap.size+3) 177 (C9 (J2 320)):=by rw[aI,←cU];exact Bk.new W0 _ _
 have aC:=Ac aI bA;have aJ:=Ac aI bB;have aK:=Ac aI bC;have cV:=Lk aI B0;clear cU;go_enter Tryz.func96,Tryz.ntmps96;go_wp2_with fail;rw[←cF,←aI];have cW:=ZA' aI z0;clear cF aI cT bA bB bC B0 z0;rw[←D4i (Cw p k)]at aF;go_wp2_with fail;have S2:=Fx V1;refine Fa (fun W=>Bk W (w.heap.size) 140 (C9 p.row)) ?_;refine Df (A:=?dJ) [0,2] (aC.drew) (fun W hW=>?dC) ?dK;case dC=>have f2:=Bk.row64 (n:=20) (hW) (hp.row);exact Ei
 refine J8 [zv 1 8 (H9 (D9 Co).row),zv 3 10 (H9 (D9 p).row),zv 4 11 (.pointer (some ⟨w.heap.size+3,0,none⟩))] (by kernel_rfl) (fun W hW=>(aC.drew.bl hW)) ?bD ?bE ?bF;case bD=>exact Ln
 case bE=>
  refine (P5 ⟨?cG,(P5 ⟨?cH,(P5 ⟨?cI,Kh⟩)⟩)⟩);case cG=>
   exact Tq fun W=>Jk Co Fg W
  case cH=>exact Jt fun W=>Jk p hp W
  case cI=>intro o ho us W hW hp Q' hQ';obtain rfl:=Option.some.inj ho;have bG:us 1=(H9 (D9 Co).row):=hp 0 _ rfl (by kernel_rfl);clear hp ho;rw[C7]at hQ' ⊢;dsimp only[F0,H8,List.foldl,zv,za]at hQ' ⊢;simp only[Ch];rw[bG]at hQ' ⊢;clear bG;go_wp2_with fail;exact Cz (hQ' _ _ (Below.refl _ _) rfl nofun)
 case bF=>
 intro us W3 b4 hg aQ cJ;have bG:us 1=(H9 (D9 Co).row):=hg _ (O8 0 rfl);have cX:us 3=(H9 (D9 p).row):=hg _ (O8 1 rfl);have aL:us 4=(.pointer (some ⟨w.heap.size+3,0,none⟩)):=hg _ (O8 2 rfl);have b5:=K9 S2 b4;refine Pv ?_;rw[bG,cX,aL];clear hg aQ cJ bG cX aL b4 S2;have B3:=K9 cV b5;have z3:=Nat.le_trans cW b5.size;have bH:=aC.bl b5;have bI:=aJ.bl b5;have bJ:=aK.bl b5;have aR:=aF.bl b5;clear b5 cV cW aC aJ aK aF;obtain⟨W6,aM⟩:=F9 (D8 W3 ⟨w.heap.size+3,0,none⟩ (C9 (D9 Co).row));have aS:Bk W6 (w.heap.size+3) 177 (C9 (Pl ((Ai (Cw p k) 16 0).set 0 (D9 Co)))):=by rw[aM];exact Bk.plPut (i:=0) (aR) (Cd (Fq hp k) 16 0) (by simp;try omega) (M1 Fg)
 have aG:=J3 aM bH (by omega);have bK:=J3 aM bI (by omega);have bL:=J3 aM bJ (by omega);have B6:=Bi aM B3 (by omega);have bM:T5 W3 ⟨w.heap.size+3,0,none⟩ 20=true:=Bk.plCan (i:=0) (aR) (Cd (Fq hp k) 16 0) (by simp;try omega);have bN:(D9 Co).row.length=20:=(M1 Fg).row;refine U7 5 fun Q' hQ'=>?_;dsimp only[F0];go_wp2_with fail;rw[←aM];refine hQ' _ _ aG ?_;clear hQ' bM bN;have z6:=Il aM z3;clear aM B3 z3 bH bI bJ aR;refine U7 6 fun Q' hQ'=>?_;dsimp only[F0];go_wp2_with fail;refine hQ' _ _ aG ?_;clear hQ';obtain⟨W7,aN⟩:=F9 (D8 W6 ⟨w.heap.size+3,20,none⟩ (C9 (D9 p).row));have bO:Bk W7 (w.heap.size+3) 177 (C9 (Pl (((Ai (Cw p k) 16 0).set 0 (D9 Co)).set 1 (D9 p)))):=by rw[aN];exact Bk.plPut (i:=1) (aS) ((Cd (Fq hp k) 16 0).set 0 (M1 Fg)) (by simp;try omega) (M1 hp)
 have aT:=J3 aN aG (by omega);have bP:=J3 aN bK (by omega);have bQ:=J3 aN bL (by omega);have B7:=Bi aN B6 (by omega);have bR:T5 W6 ⟨w.heap.size+3,20,none⟩ 20=true:=Bk.plCan (i:=1) (aS) ((Cd (Fq hp k) 16 0).set 0 (M1 Fg)) (by simp;try omega);have bS:(D9 p).row.length=20:=(M1 hp).row;refine U7 7 fun Q' hQ'=>?_;dsimp only[F0];go_wp2_with fail;rw[←aN];refine hQ' _ _ aT ?_;clear hQ' bR bS;have z7:=Il aN z6;clear aN B6 z6 aG bK bL aS;refine Ef ?_;go_wp2_with fail;go_loopw [6] (fun x6 wr=>∃j:Nat,1≤j∧j≤15∧x6=.int .i64 ((j:Int)+1)∧Bk wr (w.heap.size) 140 (C9 p.row)∧Bk wr (w.heap.size+1) 138 (C9 k)∧Bk wr (w.heap.size+2) 177 (C9 (J2 320))∧Bk wr (w.heap.size+3) 177 (C9 (Pl (Ai (Cw p k) 16 (j+1))))∧Below w.heap.size w wr∧w.heap.size+3≤wr.heap.size) (fun x6 _=>16-(intOf x6).toNat)
 case atStart=>exact ⟨1,by omega,by omega,rfl,aT,bP,bQ,(B1u p k▸bO),B7,z7⟩
 case round=>
  clear B7 z7 aT bP bQ bO;obtain⟨j,dD,hj,rfl,aO,aD,aE,aA,cK,cL⟩:=hrel;by_cases hltj:j<15
  ·
   have hd:decide ((j:Int)+1<16)=true:=decide_eq_true (by omega);go_wp2_with fail;have S8:=Fx wr;refine Fa (fun W=>Bk W (w.heap.size+1) 138 (C9 k)) ?_;refine Df (A:=?dL) [0,1,2,3,5,7] (aD.drew) (fun W hW=>?dE) ?dM;case dE=>have f7:=Bk.row64 (n:=5) (hW) (hk);exact Ei
   refine J8 [zv 4 21 (H9 (Q8 (Ai (Cw p k) 16 (j+1)) j).row),zv 6 23 (H9 (Q8 (Ai (Cw p k) 16 (j+1)) 1).row),zv 8 25 (H9 (X8 (Q8 (Ai (Cw p k) 16 (j+1)) j) (Q8 (Ai (Cw p k) 16 (j+1)) 1) k).row),zv 9 26 (.pointer (some ⟨w.heap.size+3,(j+1)*20,none⟩))] (by kernel_rfl) (fun W hW=>(aD.drew.bl hW)) ?bT ?bU ?bV;case bT=>exact Ln
   case bU=>
    refine (P5 ⟨?cM,(P5 ⟨?cN,(P5 ⟨?cO,(P5 ⟨?cP,Kh⟩)⟩)⟩)⟩);case cM=>
     intro o ho us W hW hp Q' hQ';obtain rfl:=Option.some.inj ho;clear hp ho;rw[C7]at hQ' ⊢;dsimp only[F0,H8,List.foldl,zv,za]at hQ' ⊢;simp only[Ch];have f4:=show J1 _ ⟨_,j*20,none⟩ 20=some (C9 (Q8 (Ai (Cw p k) 16 (j+1)) j).row) from Bk.plAt (i:=j) (aA.drew.bl hW) (Cd (Fq hp k) 16 (j+1)) (by simp;try omega);go_wp2_with fail;exact Cz (hQ' _ _ (Below.refl _ _) rfl nofun)
    case cN=>intro o ho us W hW hp Q' hQ';obtain rfl:=Option.some.inj ho;clear hp ho;rw[C7]at hQ' ⊢;dsimp only[F0,H8,List.foldl,zv,za]at hQ' ⊢;simp only[Ch];have f6:=show J1 _ ⟨_,20,none⟩ 20=some (C9 (Q8 (Ai (Cw p k) 16 (j+1)) 1).row) from Bk.plAt (i:=1) (aA.drew.bl hW) (Cd (Fq hp k) 16 (j+1)) (by simp;try omega);go_wp2_with fail;exact Cz (hQ' _ _ (Below.refl _ _) rfl nofun)
    case cO=>exact A7s fun W=>Ll (Q8 (Ai (Cw p k) 16 (j+1)) j) (Q8 (Ai (Cw p k) 16 (j+1)) 1) k ((Cd (Fq hp k) 16 (j+1)).at j) ((Cd (Fq hp k) 16 (j+1)).at 1) hk W
    case cP=>intro o ho us W hW hp Q' hQ';obtain rfl:=Option.some.inj ho;have aL:us 4=(H9 (Q8 (Ai (Cw p k) 16 (j+1)) j).row):=hp 0 _ rfl (by kernel_rfl);have bX:us 6=(H9 (Q8 (Ai (Cw p k) 16 (j+1)) 1).row):=hp 1 _ rfl (by kernel_rfl);have bY:us 8=(H9 (X8 (Q8 (Ai (Cw p k) 16 (j+1)) j) (Q8 (Ai (Cw p k) 16 (j+1)) 1) k).row):=hp 2 _ rfl (by kernel_rfl);clear hp ho;rw[C7]at hQ' ⊢;dsimp only[F0,H8,List.foldl,zv,za]at hQ' ⊢;simp only[Ch];rw[aL,bX,bY]at hQ' ⊢;clear aL bX bY;go_wp2_with fail;exact Cz (hQ' _ _ (Below.refl _ _) rfl nofun)
   case bV=>
   intro us W9 cY hg aQ cJ;have aL:us 4=(H9 (Q8 (Ai (Cw p k) 16 (j+1)) j).row):=hg _ (O8 0 rfl);have bX:us 6=(H9 (Q8 (Ai (Cw p k) 16 (j+1)) 1).row):=hg _ (O8 1 rfl);have bY:us 8=(H9 (X8 (Q8 (Ai (Cw p k) 16 (j+1)) j) (Q8 (Ai (Cw p k) 16 (j+1)) 1) k).row):=hg _ (O8 2 rfl);have cZ:us 9=(.pointer (some ⟨w.heap.size+3,(j+1)*20,none⟩)):=hg _ (O8 3 rfl);have aU:=K9 S8 cY;refine Pv ?_;rw[aL,bX,bY,cZ];clear hg aQ cJ aL bX bY cZ cY S8;have B9:=K9 cK aU;have z9:=Nat.le_trans cL aU.size;have bZ:=aO.bl aU;have cA:=aD.bl aU;have cB:=aE.bl aU;have aV:=aA.bl aU;clear aU cK cL aO aD aE aA;obtain⟨dF,aB⟩:=F9 (D8 W9 ⟨w.heap.size+3,(j+1)*20,none⟩ (C9 (X8 (Q8 (Ai (Cw p k) 16 (j+1)) j) (Q8 (Ai (Cw p k) 16 (j+1)) 1) k).row));have cC:Bk dF (w.heap.size+3) 177 (C9 (Pl ((Ai (Cw p k) 16 (j+1)).set (j+1) (X8 (Q8 (Ai (Cw p k) 16 (j+1)) j) (Q8 (Ai (Cw p k) 16 (j+1)) 1) k)))):=by rw[aB];exact Bk.plPut (i:=(j+1)) (aV) (Cd (Fq hp k) 16 (j+1)) (by simp;try omega) (Cp (Q8 (Ai (Cw p k) 16 (j+1)) j) (Q8 (Ai (Cw p k) 16 (j+1)) 1) k)
   have cD:=J3 aB bZ (by omega);have aP:=J3 aB cA (by omega);have cE:=J3 aB cB (by omega);have dG:=Bi aB B9 (by omega);have aW:T5 W9 ⟨w.heap.size+3,(j+1)*20,none⟩ 20=true:=Bk.plCan (i:=(j+1)) (aV) (Cd (Fq hp k) 16 (j+1)) (by simp;try omega);have aX:(X8 (Q8 (Ai (Cw p k) 16 (j+1)) j) (Q8 (Ai (Cw p k) 16 (j+1)) 1) k).row.length=20:=(Cp (Q8 (Ai (Cw p k) 16 (j+1)) j) (Q8 (Ai (Cw p k) 16 (j+1)) 1) k).row;refine U7 10 fun Q' hQ'=>?_;dsimp only[F0];go_wp2_with fail;rw[←aB];refine hQ' _ _ aP ?_;clear hQ' aW aX;have dH:=Il aB z9;clear aB B9 z9 bZ cA cB aV;refine Ef ?_;go_wp2_with fail;go_roundw;case rel=>exact ⟨j+1,by omega,by omega,by go_num,cD,aP,cE,(B7m p k dD hltj▸cC),dG,dH⟩
   case measure=>simp[intOf];omega
  ·
   obtain rfl:j=15:=by omega
   have dB:((15:Nat):Int)+1=16:=rfl;rw[dB];clear dB;have dN:=X4 (Av hp k);obtain⟨dO,aH⟩:=F9 (D8 wr ⟨w.heap.size+2,0,none⟩ (C9 (Pl (Ai (Cw p k) 16 (15+1)))));have aY:=Fi 320 aH aE (by simp) (by rw[X4 (Cd (Fq hp k) 16 (15+1))];simp);have cQ:=Bi aH cK (by omega);have dI:=Bk.row64 (n:=320) (aA) ((show (Pl (Ai (Cw p k) 16 (15+1))).length=320 from by rw[X4 (Cd (Fq hp k) 16 (15+1))];simp));have aZ:=Ee 320 aE (by simp);have cR:(Pl (Ai (Cw p k) 16 (15+1))).length=320:=(show (Pl (Ai (Cw p k) 16 (15+1))).length=320 from by rw[X4 (Cd (Fq hp k) 16 (15+1))];simp);go_wp2_with fail;rw[←aH];clear dI aZ cR;clear aH cL;have cS:(Pl (Ai (Cw p k) 16 (15+1))).length=320:=(show (Pl (Ai (Cw p k) 16 (15+1))).length=320 from by rw[X4 (Cd (Fq hp k) 16 (15+1))];simp);refine bodyPost_ret (E5 rfl _ _ _ _ _ _ rfl aY Tryz.underlying177 rfl (by simp[A2u,cS])) rfl ⟨rfl,cQ⟩
end Go.Proofs.YtlegpkdighoflaaGreat
