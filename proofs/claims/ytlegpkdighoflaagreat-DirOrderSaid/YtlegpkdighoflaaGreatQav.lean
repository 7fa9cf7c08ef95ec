/- A part of the proof of DirOrder. -/
import Derived.Lib.SlBytesConst
import Derived.Test.YtlegpkdighoflaaGreatQau
set_option linter.unusedVariables false
set_option linter.unusedSimpArgs false
set_option maxRecDepth 100000
set_option maxHeartbeats 40000000
namespace Go.Proofs.YtlegpkdighoflaaGreat
open Go Go.RowKit Sh
noncomputable def vfK (key sig:List UInt8) (ps:List (List UInt8)):List UInt64:=I5 (H6 sig 0::key::ps)
noncomputable def vfH (key sig:List UInt8) (ps:List (List UInt8)):List UInt8:=I1 (Js (H9 (Ca (H6 sig 32))) (Jp (Cl key)) (H9 (vfK key sig ps)))
noncomputable def Dc (key sig:List UInt8) (ps:List (List UInt8)):Bool:=Gp key&&(!Nt (Cl key)&&(Pa (H6 sig 32)&&vfH key sig ps==H6 sig 0))
theorem C2d {key:List UInt8} (h:Gp key=false):Vl key=50:=(Vy h).2
theorem B6f {key:List UInt8} (h:Gp key=true):Vl key=0:=if_pos h
theorem C6p {key sig:List UInt8} {ps:List (List UInt8)} (h:Gp key=false):Dc key sig ps=false:=by unfold Dc;rw[h,Bool.false_and]
theorem C6a {key sig:List UInt8} {ps:List (List UInt8)} (h:Nt (Cl key)=true):Dc key sig ps=false:=by unfold Dc;rw[h];simp
theorem C7q {key sig:List UInt8} {ps:List (List UInt8)} (h:Pa (H6 sig 32)=false):Dc key sig ps=false:=by unfold Dc;rw[h];simp
theorem C7u {key sig:List UInt8} {ps:List (List UInt8)} (h1:Gp key=true) (h2:Nt (Cl key)=false) (h3:Pa (H6 sig 32)=true):Dc key sig ps=(vfH key sig ps==H6 sig 0):=by unfold Dc;rw[h1,h2,h3,Bool.not_false,Bool.true_and,Bool.true_and,Bool.true_and]
theorem A8n (key sig:List UInt8) (ps:List (List UInt8)):(vfH key sig ps).length=32:=M1 _
theorem A6n (key sig:List UInt8) (vp:Value) (ps:List (List UInt8)) (hk:key.length=32) (hg:sig.length=64) (w:World) (hp:M9 w w.heap.size vp ps) (hp0:0<ps.length) (hpl:ps.length≤1000) (hpf:ps.flatten.length≤1000000000):Calls Tryz.prog 73 #[A8 key,A8 sig,vp] w fun e w'=>e=.returned (.bool (Dc key sig ps))∧Below w.heap.size w w':=by
 have HP:=Lib.hid hp;clear hp;have gU:=Ia hg 0 (by decide);have gV:=Ia hg 32 (by decide);have iJ:=A8n key sig ps;obtain⟨W0,fI⟩:=H8 (((w.alloc (Obj.cells (c8 key).toArray 23)).alloc (Obj.cells (c8 sig).toArray 61)));have hL:W0=M2 w [(23,(c8 key)),(61,(c8 sig))]:=fI;have B0:=Jc hL;have cV:=Jy hL rfl;have eJ:=Gs 1 hL rfl;have z0:=Vp 2 hL rfl;have gW:=SL' 2 hL rfl;clear hL;have f1:=Bk.row8 (n:=32) (cV) (hk);rw[fI]at f1;go_enter Tryz.func73,Tryz.ntmps73;go_wp2_with fail;rw[←fI];clear f1;clear fI gW;refine (A6y key hk W0).mono ?_;rintro e W2 ⟨rfl,b3⟩;have B2:=J5 B0 b3;have z2:=Nat.le_trans z0 b3.size;have cW:=cV.bl b3;have cX:=eJ.bl b3;clear b3 B0 z0 cV eJ;cases hok:Gp key;case false=>
  have HV:=Lib.hid (C6p (sig:=sig) (ps:=ps) hok);rw[C2d hok];clear hok;obtain⟨V4,dW⟩:=H8 (W2.alloc (Obj.cells (C9 (I3 20)).toArray 140));have eK:W2.heap.size=W2.heap.size:=rfl;have bE:Bk V4 (W2.heap.size) 140 (C9 (I3 20)):=by rw[dW,←eK];exact Bk.new W2 _ _
  have fX:=Jx dW B2;have aA:=Y9 eK cW;have aB:=Y9 eK cX;have bF:w.heap.size+2≤W2.heap.size:=by rw[←eK];exact Nat.le_trans z2 (Nat.le_refl _)
  clear eK;obtain⟨V5,eL⟩:=H8 (E0 V4 ⟨W2.heap.size,0,none⟩ (C9 (Cl key).row));have eM:=Dl 20 eL bE (by simp) ((Ij key).row);have gX:=Z9 eL fX (by omega);have bZ:=Ck 20 bE (by simp);rw[dW]at bZ;have aQ:(Cl key).row.length=20:=(Ij key).row;go_wp2_with fail;rw[←dW,←eL];clear bZ aQ;obtain⟨p6,fK⟩:=H8 (W2.heap.size);rw[←fK]at eM aA aB bF;try rw[←fK]
  have iK:w.heap.size+2≤V5.heap.size:=by have hz:=z2;rw[eL,dW];first | (simp;omega) | (simp[World.setCell];omega)
  clear dW eL fK z2 bE fX;go_ret;exact ⟨by rw[HV.out];rfl,gX⟩
 case true=>
  rw[B6f hok];have HK:=Lib.hid hok;clear hok;obtain⟨V7,bY⟩:=H8 (W2.alloc (Obj.cells (C9 (I3 20)).toArray 140));have eN:W2.heap.size=W2.heap.size:=rfl;have bG:Bk V7 (W2.heap.size) 140 (C9 (I3 20)):=by rw[bY,←eN];exact Bk.new W2 _ _
  have cA:=Y3 bY cW;have cB:=Y3 bY cX;have fY:=Jx bY B2;have aA:=Y9 eN cW;have aB:=Y9 eN cX;have bF:w.heap.size+2≤W2.heap.size:=by rw[←eN];exact Nat.le_trans z2 (Nat.le_refl _)
  clear eN;obtain⟨V8,cC⟩:=H8 (E0 V7 ⟨W2.heap.size,0,none⟩ (C9 (Cl key).row));have aW:=Dl 20 cC bG (by simp) ((Ij key).row);have cD:=I4 cC cA (by omega);have cE:=I4 cC cB (by omega);have fZ:=Z9 cC fY (by omega);have cF:=Ck 20 bG (by simp);rw[bY]at cF;have f9:=Bk.row64 (n:=20) (aW) ((Ij key).row);rw[cC,bY]at f9;have aQ:(Cl key).row.length=20:=(Ij key).row;go_wp2_with fail;rw[←bY,←cC];clear cF f9 aQ;obtain⟨gY,cY⟩:=H8 (W2.heap.size);rw[←cY]at aW aA aB bF;try rw[←cY]
  have gD:w.heap.size+2≤V8.heap.size:=by have hz:=z2;rw[cC,bY];first | (simp;omega) | (simp[World.setCell];omega)
  clear bY cC cY z2 cA cB bG fY;refine (A6s (Cl key) (Ij key) V8).mono ?_;rintro e gZ ⟨rfl,dX⟩;have fL:=J5 fZ dX;have gE:=Nat.le_trans gD dX.size;have cG:=cD.bl dX;have bH:=cE.bl dX;have cH:=aW.bl dX;clear dX fZ gD cD cE aW;cases hsm:Nt (Cl key);case false=>
   have HS:=Lib.hid hsm;clear hsm;have hE:=Bk.xyAt (bH) hg 32 (by decide);go_wp2_with fail;clear hE;refine (B4l (H6 sig 32) (Ia hg 32 (by decide)) gZ).mono ?_;rintro e aP ⟨rfl,dY⟩;have gF:=J5 fL dY;have dZ:=Nat.le_trans gE dY.size;have bI:=cG.bl dY;have bJ:=bH.bl dY;have bK:=cH.bl dY;clear dY fL gE cG bH cH;cases hsn:Pa (H6 sig 32);case false=>
    have HV:=Lib.hid (C7q (key:=key) (ps:=ps) hsn);clear hsn;obtain⟨gG,aY⟩:=H8 (aP.alloc (Obj.cells (C9 (I3 4)).toArray 184));have aZ:aP.heap.size=aP.heap.size:=rfl;have aR:Bk gG (aP.heap.size) 184 (C9 (I3 4)):=by rw[aY,←aZ];exact Bk.new aP _ _
    have eO:=Jx aY gF;have aC:=Y9 aZ bI;have aD:=Y9 aZ bJ;have aE:=Y9 aZ bK;have bL:w.heap.size+2≤aP.heap.size:=by rw[←aZ];exact Nat.le_trans dZ (Nat.le_refl _)
    clear aZ;obtain⟨hF,bM⟩:=H8 (E0 gG ⟨aP.heap.size,0,none⟩ (C9 (Ca (H6 sig 32))));have cZ:=Dl 4 bM aR (by simp) (Fd (H6 sig 32));have fM:=Z9 bM eO (by omega);have bN:=Ck 4 aR (by simp);rw[aY]at bN;have aQ:(Ca (H6 sig 32)).length=4:=(Fd (H6 sig 32));go_wp2_with fail;rw[←aY,←bM];clear bN aQ;obtain⟨iL,dB⟩:=H8 (aP.heap.size);rw[←dB]at cZ aC aD aE bL;try rw[←dB]
    have hG:w.heap.size+2≤hF.heap.size:=by have hz:=dZ;rw[bM,aY];first | (simp;omega) | (simp[World.setCell];omega)
    clear aY bM dB dZ aR eO;go_ret;exact ⟨by rw[HV.out];rfl,fM⟩
   case true=>
    have HV:=Lib.hid (C7u (ps:=ps) HK.out HS.out hsn);clear hsn;obtain⟨gH,aG⟩:=H8 (aP.alloc (Obj.cells (C9 (I3 4)).toArray 184));have bA:aP.heap.size=aP.heap.size:=rfl;have aS:Bk gH (aP.heap.size) 184 (C9 (I3 4)):=by rw[aG,←bA];exact Bk.new aP _ _
    have bO:=Y3 aG bI;have bP:=Y3 aG bJ;have bQ:=Y3 aG bK;have eP:=Jx aG gF;have aC:=Y9 bA bI;have aD:=Y9 bA bJ;have aE:=Y9 bA bK;have bL:w.heap.size+2≤aP.heap.size:=by rw[←bA];exact Nat.le_trans dZ (Nat.le_refl _)
    clear bA;obtain⟨gI,aM⟩:=H8 (E0 gH ⟨aP.heap.size,0,none⟩ (C9 (Ca (H6 sig 32))));have aH:=Dl 4 aM aS (by simp) (Fd (H6 sig 32));have aI:=I4 aM bO (by omega);have aJ:=I4 aM bP (by omega);have aT:=I4 aM bQ (by omega);have bB:=Z9 aM eP (by omega);have bR:=Ck 4 aS (by simp);rw[aG]at bR;have aQ:(Ca (H6 sig 32)).length=4:=(Fd (H6 sig 32));go_wp2_with fail;rw[←aG,←aM];clear bR aQ;obtain⟨hJ,dC⟩:=H8 (aP.heap.size);rw[←dC]at aH aC aD aE bL;try rw[←dC]
    have dD:w.heap.size+2≤gI.heap.size:=by have hz:=dZ;rw[aM,aG];first | (simp;omega) | (simp[World.setCell];omega)
    clear aG aM dC dZ bO bP bQ aS eP;have dE:=Eo gI;refine Dm (fun W=>True) ?_;refine Cf (A:=?hY) [0,1,2] trivial (fun W hW=>?fN) ?iA;case fN=>
     exact Dd
    refine J2 [zs 3 36 2 [(H6 sig 0),key],zp 4 37 ((H6 sig 0)::key::ps),zv 5 38 (H7 (I5 ((H6 sig 0)::key::ps))),za 6 11 184 (C9 (I3 4))] (by kernel_rfl) (fun W hW=>trivial) ?dF ?dG ?dH;case dF=>exact Jz
    case dG=>
     refine (N7 ⟨?eQ,(N7 ⟨?eR,(N7 ⟨?eS,(N7 ⟨?eT,Ik⟩)⟩)⟩)⟩);case eQ=>
      intro o ho us W hW hp Q' hQ';obtain rfl:=Option.some.inj ho;clear hp ho;rw[C8]at hQ' ⊢;dsimp only[F8,I2,List.foldl,zv,za,zs,zp,zb]at hQ' ⊢;simp only[Bu];have eU:=aJ.drew.bl hW;have eV:=aI.drew.bl hW;go_wp2_with fail;exact Cm (hQ' _ _ (Bi _ _) ⟨_,rfl,(M9.two W _ _ _ (H6 sig 0) key (Bk.by (eU) 0 32 64 (by have hh:=hg;omega) (by decide) (by decide) rfl) (Bk.byAll (eV) hk (by decide))).more (by simp)⟩ nofun)
     case eR=>
      intro o ho us W hW hp Q' hQ';obtain rfl:=Option.some.inj ho;obtain⟨gJ,aX,eW⟩:=hp 0 _ rfl (by kernel_rfl);have aX:us 3=.slice (some ⟨gJ,0,none⟩) 2 2:=aX;have eW:M9 W W.heap.size (.slice (some ⟨gJ,0,none⟩) 2 2) [(H6 sig 0),key]:=by rw[←aX];exact eW
      have eW:=Lib.hid eW;clear hp ho;rw[C8]at hQ' ⊢;dsimp only[F8,I2,List.foldl,zv,za,zs,zp,zb]at hQ' ⊢;simp only[Bu];rw[aX]at hQ' ⊢;clear aX;have bW:=E8 bB (E8 dE hW dE.size) bB.size;have dI:=Lib.hid (HP.out.up bW);clear bW;go_wp2_with fail;refine (Ye _ _ _ _ [(H6 sig 0),key] ps W eW.out dI.out hp0 (by simp;omega)).mono ?_;rintro e W2 ⟨v2,rfl,fO,b2⟩;have fO:=Lib.hid fO;go_wp2_with fail;exact Cm (hQ' _ _ b2 fO.out nofun)
     case eS=>intro o ho us W hW hp Q' hQ';obtain rfl:=Option.some.inj ho;have fP:M9 W W.heap.size (us 4) ((H6 sig 0)::key::ps):=hp 1 _ rfl (by kernel_rfl);have fP:=Lib.hid fP;clear hp ho;rw[C8]at hQ' ⊢;dsimp only[F8,I2,List.foldl,zv,za,zs,zp,zb]at hQ' ⊢;simp only[Bu];have bW:=E8 bB (E8 dE hW dE.size) bB.size;have dI:=Lib.hid (HP.out.up bW);clear bW;go_wp2_with fail;refine (Nc _ ((H6 sig 0)::key::ps) W fP.out (A0u (C3k (Ia hg 0 (by decide)) hk) hpf)).mono ?_;rintro e W2 ⟨rfl,b2⟩;go_wp2_with fail;exact Cm (hQ' _ _ b2 rfl nofun)
     case eT=>exact M8 rfl rfl (fun ρ W=>A4q W ρ _ _ _ _ _)
    case dH=>
    intro us iB gK hg dJ eX;have cI:us 5=(H7 (I5 ((H6 sig 0)::key::ps))):=hg _ (M6 2 rfl);obtain⟨fQ,bS,aU⟩:=hg _ (M6 3 rfl);have bS:us 6=.pointer (some ⟨fQ,0,none⟩):=bS;have eA:=Ac (eX _ (M6 3 rfl) rfl) bS;have dK:=J5 dE gK;have eB:=Q8 aI eA.1;have eC:=Q8 aJ eA.1;have eD:=Q8 aT eA.1;have eE:=Q8 aH eA.1;have fR:=Nat.le_trans dD (Nat.le_trans dE.size eA.1);clear eA;refine RG' ?_;rw[cI,bS];clear hg dJ eX cI bS gK dE;have gL:=J5 bB dK;have gM:=Nat.le_trans dD dK.size;have cJ:=aI.bl dK;have cK:=aJ.bl dK;have cL:=aT.bl dK;have cM:=aH.bl dK;clear dK bB dD aI aJ aT aH;obtain⟨iC,aK⟩:=H8 (E0 iB ⟨fQ,0,none⟩ (C9 (I5 ((H6 sig 0)::key::ps))));have aF:=Dl 4 aK aU (by simp) (Y1 ((H6 sig 0)::key::ps));have cN:=I4 aK cJ (by omega);have bT:=I4 aK cK (by omega);have aN:=I4 aK cL (by omega);have aO:=I4 aK cM (by omega);have bD:=Z9 aK gL (by omega);have dL:=Ck 4 aU (by simp);have dM:(I5 ((H6 sig 0)::key::ps)).length=4:=(Y1 ((H6 sig 0)::key::ps));refine U0 7 fun Q' hQ'=>?_;dsimp only[F8];go_wp2_with fail;rw[←aK];refine hQ' _ _ trivial ?_;clear hQ' dL dM;have fS:=Gd aK gM;clear aK gL gM cJ cK cL cM aU;refine Cu ?_;go_wp2_with fail;have bC:=Eo iC
    refine Dm (fun W=>Bk W (fQ) 184 (C9 (I5 ((H6 sig 0)::key::ps)))∧Bk W (gY) 140 (C9 (Cl key).row)∧Bk W (hJ) 184 (C9 (Ca (H6 sig 32)))) ?_;refine Cf (A:=?iD) [0,2,4] ⟨(aF.drew),(aN.drew),(aO.drew)⟩ (fun W hW=>?fT) ?iE;case fT=>
     have f0:=Bk.row64 (n:=4) (hW.2.2) ((Fd (H6 sig 32)));have f2:=Bk.row64 (n:=20) (hW.2.1) ((Ij key).row);have f4:=Bk.row64 (n:=4) (hW.1) ((Y1 ((H6 sig 0)::key::ps)));exact Dd
    refine J2 [zv 1 40 (A8 (H9 (Ca (H6 sig 32)))),zv 3 42 (H7 (Jp (Cl key)).row),zv 5 44 (A8 (H9 (I5 ((H6 sig 0)::key::ps)))),zv 6 45 (H7 (Js (H9 (Ca (H6 sig 32))) (Jp (Cl key)) (H9 (I5 ((H6 sig 0)::key::ps)))).row),zv 7 46 (A8 (I1 (Js (H9 (Ca (H6 sig 32))) (Jp (Cl key)) (H9 (I5 ((H6 sig 0)::key::ps)))))),za 8 12 23 (c8 (z8 32))] (by kernel_rfl) (fun W hW=>⟨(aF.drew.bl hW),(aN.drew.bl hW),(aO.drew.bl hW)⟩) ?dN ?dO ?dP;case dN=>exact Jz
    case dO=>
     refine (N7 ⟨?eY,(N7 ⟨?eZ,(N7 ⟨?fD,(N7 ⟨?fE,(N7 ⟨?fF,(N7 ⟨?fG,Ik⟩)⟩)⟩)⟩)⟩)⟩);case eY=>
      intro o ho us W hW hp Q' hQ';obtain rfl:=Option.some.inj ho;clear hp ho;rw[C8]at hQ' ⊢;dsimp only[F8,I2,List.foldl,zv,za]at hQ' ⊢;simp only[Bu];have bW:=E8 bD (E8 bC hW bC.size) bD.size;have dI:=Lib.hid (HP.out.up bW);clear bW;go_wp2_with fail;refine (Ps (Ca (H6 sig 32)) (Fd (H6 sig 32)) W).mono ?_;rintro e W2 ⟨rfl,b2⟩;go_wp2_with fail;exact Cm (hQ' _ _ b2 rfl nofun)
     case eZ=>intro o ho us W hW hp Q' hQ';obtain rfl:=Option.some.inj ho;have cO:us 1=(A8 (H9 (Ca (H6 sig 32)))):=hp 0 _ rfl (by kernel_rfl);clear hp ho;rw[C8]at hQ' ⊢;dsimp only[F8,I2,List.foldl,zv,za]at hQ' ⊢;simp only[Bu];rw[cO]at hQ' ⊢;clear cO;have bW:=E8 bD (E8 bC hW bC.size) bD.size;have dI:=Lib.hid (HP.out.up bW);clear bW;go_wp2_with fail;refine (B9s (Cl key) (Ij key) W).mono ?_;rintro e W2 ⟨rfl,b2⟩;go_wp2_with fail;exact Cm (hQ' _ _ b2 rfl nofun)
     case fD=>intro o ho us W hW hp Q' hQ';obtain rfl:=Option.some.inj ho;have aX:us 3=(H7 (Jp (Cl key)).row):=hp 1 _ rfl (by kernel_rfl);clear hp ho;rw[C8]at hQ' ⊢;dsimp only[F8,I2,List.foldl,zv,za]at hQ' ⊢;simp only[Bu];rw[aX]at hQ' ⊢;clear aX;have bW:=E8 bD (E8 bC hW bC.size) bD.size;have dI:=Lib.hid (HP.out.up bW);clear bW;go_wp2_with fail;refine (Ps (I5 ((H6 sig 0)::key::ps)) (Y1 ((H6 sig 0)::key::ps)) W).mono ?_;rintro e W2 ⟨rfl,b2⟩;go_wp2_with fail;exact Cm (hQ' _ _ b2 rfl nofun)
     case fE=>intro o ho us W hW hp Q' hQ';obtain rfl:=Option.some.inj ho;have cO:us 1=(A8 (H9 (Ca (H6 sig 32)))):=hp 0 _ rfl (by kernel_rfl);have aX:us 3=(H7 (Jp (Cl key)).row):=hp 1 _ rfl (by kernel_rfl);have cI:us 5=(A8 (H9 (I5 ((H6 sig 0)::key::ps)))):=hp 2 _ rfl (by kernel_rfl);clear hp ho;rw[C8]at hQ' ⊢;dsimp only[F8,I2,List.foldl,zv,za]at hQ' ⊢;simp only[Bu];rw[cO,aX,cI]at hQ' ⊢;clear cO aX cI;have bW:=E8 bD (E8 bC hW bC.size) bD.size;have dI:=Lib.hid (HP.out.up bW);clear bW;go_wp2_with fail;refine (B7i (H9 (Ca (H6 sig 32))) (Jp (Cl key)) (H9 (I5 ((H6 sig 0)::key::ps))) (X9 (Ca (H6 sig 32))) (C3f (Ij key)) (X9 (I5 ((H6 sig 0)::key::ps))) W).mono ?_;rintro e W2 ⟨rfl,b2⟩;go_wp2_with fail;exact Cm (hQ' _ _ b2 rfl nofun)
     case fF=>intro o ho us W hW hp Q' hQ';obtain rfl:=Option.some.inj ho;have bS:us 6=(H7 (Js (H9 (Ca (H6 sig 32))) (Jp (Cl key)) (H9 (I5 ((H6 sig 0)::key::ps)))).row):=hp 3 _ rfl (by kernel_rfl);clear hp ho;rw[C8]at hQ' ⊢;dsimp only[F8,I2,List.foldl,zv,za]at hQ' ⊢;simp only[Bu];rw[bS]at hQ' ⊢;clear bS;have bW:=E8 bD (E8 bC hW bC.size) bD.size;have dI:=Lib.hid (HP.out.up bW);clear bW;go_wp2_with fail;refine (Lp (Js (H9 (Ca (H6 sig 32))) (Jp (Cl key)) (H9 (I5 ((H6 sig 0)::key::ps)))) (B5n (H9 (Ca (H6 sig 32))) (Jp (Cl key)) (H9 (I5 ((H6 sig 0)::key::ps)))) W).mono ?_;rintro e W2 ⟨rfl,b2⟩;go_wp2_with fail;exact Cm (hQ' _ _ b2 rfl nofun)
     case fG=>exact M8 rfl rfl (fun ρ W=>Pf W ρ _ _ _ _ _)
    case dP=>
    intro us iF gN hg dJ eX;have cO:us 1=(A8 (H9 (Ca (H6 sig 32)))):=hg _ (M6 0 rfl);have aX:us 3=(H7 (Jp (Cl key)).row):=hg _ (M6 1 rfl);have cI:us 5=(A8 (H9 (I5 ((H6 sig 0)::key::ps)))):=hg _ (M6 2 rfl);have bS:us 6=(H7 (Js (H9 (Ca (H6 sig 32))) (Jp (Cl key)) (H9 (I5 ((H6 sig 0)::key::ps)))).row):=hg _ (M6 3 rfl);have gO:us 7=(A8 (I1 (Js (H9 (Ca (H6 sig 32))) (Jp (Cl key)) (H9 (I5 ((H6 sig 0)::key::ps)))))):=hg _ (M6 4 rfl);obtain⟨fU,fH,aV⟩:=hg _ (M6 5 rfl);have fH:us 8=.pointer (some ⟨fU,0,none⟩):=fH;have dQ:=Ac (eX _ (M6 5 rfl) rfl) fH;have dR:=J5 bC gN;have eF:=Q8 cN dQ.1;have eG:=Q8 bT dQ.1;have eH:=Q8 aN dQ.1;have eI:=Q8 aO dQ.1;have dS:=Q8 aF dQ.1;have fV:=Nat.le_trans fS (Nat.le_trans bC.size dQ.1);clear dQ;refine Mu ?_;rw[cO,aX,cI,bS,gO,fH];clear hg dJ eX cO aX cI bS gO fH gN bC;have gP:=J5 bD dR;have gQ:=Nat.le_trans fS dR.size;have cP:=bT.bl dR;have cQ:=aN.bl dR;have cR:=aO.bl dR;have bU:=aF.bl dR;clear dR bD fS cN bT aN aO aF;obtain⟨gR,aL⟩:=H8 (E0 iF ⟨fU,0,none⟩ (c8 (I1 (Js (H9 (Ca (H6 sig 32))) (Jp (Cl key)) (H9 (I5 ((H6 sig 0)::key::ps)))))))
    have bV:=P8' 32 aL aV (by simp) (M1 (Js (H9 (Ca (H6 sig 32))) (Jp (Cl key)) (H9 (I5 ((H6 sig 0)::key::ps)))));have cS:=I4 aL cP (by omega);have cT:=I4 aL cQ (by omega);have cU:=I4 aL cR (by omega);have bX:=I4 aL bU (by omega);have gS:=Z9 aL gP (by omega);have dT:=C8' 32 aV (by simp);have dU:(I1 (Js (H9 (Ca (H6 sig 32))) (Jp (Cl key)) (H9 (I5 ((H6 sig 0)::key::ps))))).length=32:=(M1 (Js (H9 (Ca (H6 sig 32))) (Jp (Cl key)) (H9 (I5 ((H6 sig 0)::key::ps)))));refine U0 9 fun Q' hQ'=>?_;dsimp only[F8];go_wp2_with fail;rw[←aL];refine hQ' _ _ ⟨bX,cT,cU⟩ ?_;clear hQ' dT dU;have gT:=Gd aL gQ;clear aL gP gQ cP cQ cR bU aV;refine Cu ?_;go_wp2_with fail;have fJ:=Eo gR;refine Dm (fun W=>Bk W (fU) 23 (c8 (I1 (Js (H9 (Ca (H6 sig 32))) (Jp (Cl key)) (H9 (I5 ((H6 sig 0)::key::ps))))))∧Bk W (w.heap.size+1) 61 (c8 sig)) ?_;refine Cf (A:=?iG) [0,1,2,3,4,5] ⟨(bV.drew),(cS.drew)⟩ (fun W hW=>?fW) ?iH;case fW=>have f0:=Bk.row8 (n:=32) (hW.1) ((M1 (Js (H9 (Ca (H6 sig 32))) (Jp (Cl key)) (H9 (I5 ((H6 sig 0)::key::ps))))));have f3:=Bk.xyAt (hW.2) hg 0 (by decide);exact Dd
    obtain⟨iM,dV⟩:=H8 (gR.drew);rw[←dV];rw[←dV]at fJ;have iI:=J5 gS fJ;have iN:=Nat.le_trans gT fJ.size;clear dV fJ gS gT cS cT cU bX bV;refine Cu ?_;go_wp2_with fail;go_ret;exact ⟨by rw[HV.out];rfl,iI⟩
  case true=>have HV:=Lib.hid (C6a (sig:=sig) (ps:=ps) hsm);clear hsm;go_wp2_with fail;go_ret;exact ⟨by rw[HV.out];rfl,fL⟩
theorem A6j (w:World):Calls Tryz.prog 81 #[.slice none 0 0] w fun e w'=>e=.returned (.slice none 0 0)∧w=w':=by
 have aA:∀(w:World) (a:Option Addr) (n c n' c':Nat),(binOp .eql 45 (.slice a n c) (.slice none n' c')).run Tryz.prog w=.ok (.bool a.isNone) w:=fun w a n c n' c'=>Lib.run_eql_slice_nil w _ _ a n c n' c' Tryz.underlying45;go_enter Tryz.func81,Tryz.ntmps81;go_wp2;go_ret;exact ⟨rfl,rfl⟩
theorem A7i (v:Value) (l:List UInt8) (w:World) (hv:By w 0 w.heap.size v l) (hne:0<l.length) (hn:l.length≤1099511627776) :
 Calls Tryz.prog 81 #[v] w fun e w'=>∃u,e=.returned u∧Q5 w' w.heap.size u l∧Below w.heap.size w w':=by
 obtain⟨g,o,c,rfl,h1,h2,_,_,_⟩:=hv.row hne;have aA:=Lib.hid (hv.alloc (Nat.le_refl _) (.cells #[] 5));clear hv;have aD:∀(w:World) (a:Option Addr) (n c n' c':Nat),(binOp .eql 45 (.slice a n c) (.slice none n' c')).run Tryz.prog w=.ok (.bool a.isNone) w:=fun w a n c n' c'=>Lib.run_eql_slice_nil w _ _ a n c n' c' Tryz.underlying45;have ho:Hid (Q5 (w.alloc (.cells #[] 5)) w.heap.size (.slice (some ⟨w.heap.size,0,none⟩) 0 0) []):=Lib.hid (World.ownsRow_made w #[] 0 (Nat.le_refl _) (Nat.zero_le _) (by simp));go_enter Tryz.func81,Tryz.ntmps81;go_wp2_with (at_builtin;refine Xa _ w.heap.size _ [] rfl _ _ rfl rfl ho.out _ rfl l 0 _ aA.out (by simp;omega) (by simp) ?_;intro A2 c2 w2 aE aF aB aC aG aH);go_ret;exact ⟨_,rfl,by simpa using aB,(Bi _ _).trans aC⟩
theorem B1o (v:UInt64) (m:Nat) (hm:m<8):(Y4 v).take m++[(v >>> UInt64.ofNat (56-8*m)).toUInt8]=(Y4 v).take (m+1):=by
 match m,hm with
 | 0,_=>rfl
 | 1,_=>rfl
 | 2,_=>rfl
 | 3,_=>rfl
 | 4,_=>rfl
 | 5,_=>rfl
 | 6,_=>rfl
 | 7,_=>
  show [(v >>> 56).toUInt8,(v >>> 48).toUInt8,(v >>> 40).toUInt8,(v >>> 32).toUInt8,(v >>> 24).toUInt8,(v >>> 16).toUInt8,(v >>> 8).toUInt8]++[(v >>> UInt64.ofNat 0).toUInt8]=Y4 v;have:v >>> UInt64.ofNat 0=v:=by
   apply UInt64.toNat_inj.1;rw[UInt64.toNat_shiftRight];simp
  rw[this];rfl
@[simp] theorem A5y (v : UInt64) : (Y4 v).length = 8 := rfl
def C2f (w:World) (bv:Value) (l:List UInt8):Prop:=(bv=.slice none 0 0∧l=[])∨(By w 0 w.heap.size bv l∧0<l.length∧l.length≤1099511627776)
theorem A4o (bv:Value) (l:List UInt8) (w:World) (h:C2f w bv l):Calls Tryz.prog 81 #[bv] w fun e w'=>∃u,e=.returned u∧Q5 w' w.heap.size u l∧Below w.heap.size w w':=by
 rcases h with ⟨rfl,rfl⟩ | ⟨h1,h2,h3⟩
 ·refine (A6j w).mono ?_;rintro e w' ⟨rfl,rfl⟩;exact ⟨_,rfl,Q5.nil _ _,Below.refl _ _⟩
 ·exact A7i bv l w h1 h2 h3
theorem Nf (bv:Value) (l:List UInt8) (v:UInt64) (w:World) (h:C2f w bv l) (hl:l.length≤1099511627776) :
 Calls Tryz.prog 54 #[bv,.int .u64 (J0 v)] w fun e w'=>∃u,e=.returned u∧Q5 w' w.heap.size u (l++Y4 v)∧Below w.heap.size w w':=by
 have H:=Lib.hid h;clear h;go_enter Tryz.func54,Tryz.ntmps54;go_wp2_with fail;refine (A4o bv l w H.out).mono ?_;rintro e w1 ⟨u,rfl,O1,b1⟩;have aC:Q5 w1 w.heap.size u (l++(Y4 v).take 0):=by simpa using O1
 have O1:=Lib.hid aC;clear aC;go_wp2_with fail;go_loopw [5,6] (fun s x wr=>∃m:Nat,m≤8∧x=.int .i64 (56-8*(m:Int))∧Q5 wr w.heap.size s (l++(Y4 v).take m)∧Below w.heap.size w wr) (fun _ x _=>(intOf x+8).toNat)
 case atStart=>exact ⟨0,by omega,rfl,O1.out,b1⟩
 case round=>
  clear O1 b1;obtain⟨m,hm,rfl,O,B⟩:=hrel;by_cases hlt:m<8
  ·obtain⟨s,hs⟩:=H8 (56-8*m);have es:56-8*(m:Int)=(s:Int):=by omega
   have aD:s<64:=by omega
   have hd:decide (0≤(s:Int))=true:=decide_eq_true (by omega);rw[es];have HS:Hid ((Y4 v).take m++[(v >>> UInt64.ofNat s).toUInt8]=(Y4 v).take (m+1)):=Lib.hid (by rw[hs];exact B1o v m hlt);have ES:=Lib.hid es;have aB:(l++(Y4 v).take m).length≤2199023255552:=by simp;omega
   clear hs es;obtain⟨L,hL⟩:=H8 (l++(Y4 v).take m);have HL:Hid (L++[(v >>> UInt64.ofNat s).toUInt8]=l++(Y4 v).take (m+1)):=Lib.hid (by rw[hL,List.append_assoc,HS.out]);rw[←hL]at O aB;clear hL HS;have O':=Lib.hid O;clear O;go_wp2_with (at_builtin;refine Jm _ w.heap.size _ L rfl _ _ rfl rfl O'.out _ _ rfl rfl (by omega) B.size ?_;intro A2 c2 w7 aG aH aE aF;generalize (L++[(v >>> UInt64.ofNat s).toUInt8]).length=L7 at *);go_roundw;case rel=>exact ⟨m+1,by omega,by rw[←ES.out];all_goals (simp<;>omega),by rw[←HL.out];exact aE,B.trans aF⟩
   case measure=>have:=ES.out;simp[intOf]<;>omega
  ·obtain rfl:m=8:=by omega
   have aA:(Y4 v).take 8=Y4 v:=rfl;rw[aA]at O;have O':=Lib.hid O;clear O aA;go_wp2_with fail;go_ret;exact ⟨_,rfl,O'.out,B⟩
theorem Q5.up {w:World} {base:Nat} {v:Value} {l:List UInt8} (h:Q5 w base v l):By w 0 w.heap.size v l:=By.less h.by_ (Nat.zero_le _)
def B4c (l x:List UInt8):List UInt8:=l++Y4 (UInt64.ofNat x.length)++x
theorem A4w (l x:List UInt8):(B4c l x).length=l.length+8+x.length:=by simp[B4c];omega
theorem A8x (bv xv:Value) (l x:List UInt8) (w:World) (h:C2f w bv l) (hx:By w 0 w.heap.size xv x) (hl:l.length≤1099511627) (hxl:x.length≤1099511627776) :
 Calls Tryz.prog 111 #[bv,xv] w fun e w'=>∃u,e=.returned u∧Q5 w' w.heap.size u (B4c l x)∧Below w.heap.size w w':=by
 obtain⟨A,c,rfl,h2,h3,_⟩:=hx.open_;have hw:IntKind.u64.wrap (x.length:Int)=J0 (UInt64.ofNat x.length):=by
  rw[Gh];unfold J0;simp
 have H:=Lib.hid h;have HX:=Lib.hid hx;have HE:Hid (B4c l x=(l++Y4 (UInt64.ofNat x.length))++x):=Lib.hid rfl;obtain⟨n,hn⟩:=H8 (x.length);rw[←hn]at hw HE h2 hxl HX ⊢;have HN:=Lib.hid hn;clear h hx hn;go_enter Tryz.func111,Tryz.ntmps111;go_wp2_with fail;refine (Nf bv l (UInt64.ofNat n) w H.out (by omega)).mono ?_;rintro e w1 ⟨u,rfl,O1,b1⟩;have aC:=Lib.hid O1;have aD:=Lib.hid (By.up HX.out b1);have aA:(l++Y4 (UInt64.ofNat n)).length≤1099511628000:=by simp;omega
 obtain⟨L,hL⟩:=H8 (l++Y4 (UInt64.ofNat n));rw[←hL]at HE aA;have O2:Hid (Q5 w1 w.heap.size u L):=Lib.hid (by rw[hL];exact O1);clear O1 aC hL hw;go_wp2_with (at_builtin;refine Xa _ w.heap.size _ L rfl _ _ rfl rfl O2.out _ rfl x 0 _ aD.out (by rw[←HN.out];omega) b1.size ?_;intro A2 c2 w2 aF aG aB aE aH aI);go_ret;rw[List.length_append]at aB;exact ⟨_,rfl,by rw[HE.out];exact aB,b1.trans aE⟩
theorem B1u (v:Value) (ls:List (List UInt8)) (w:World) (hp:M9 w w.heap.size v ls) (hsz:ls.flatten.length≤17592186044416) :
 Calls Tryz.prog 70 #[v] w fun e w'=>∃u,e=.returned u∧Q5 w' w.heap.size u ls.flatten∧Below w.heap.size w w':=by
 have H:=Lib.hid hp;clear hp;go_enter Tryz.func70,Tryz.ntmps70;go_wp2_with fail;refine (Ri v ls w H.out hsz).mono ?_;rintro e w1 ⟨u,rfl,O1,b1⟩;have O:=Lib.hid O1;clear O1;go_wp2_with fail;go_ret;exact ⟨_,rfl,O.out,b1⟩
def Hd:List UInt8:=[119,105,116,97,110]
def Ah (tag:UInt8) (body:List UInt8):List UInt8:=B4c (Hd++[tag]) body
theorem A0v (tag:UInt8) (body:List UInt8):(Ah tag body).length=14+body.length:=by unfold Ah;rw[A4w];simp[Hd]
theorem A1j:(Hd.map v8).toArray=#[.int .u8 119,.int .u8 105,.int .u8 116,.int .u8 97,.int .u8 110]:=by kernel_rfl
theorem A5w (tag:UInt8) (xv:Value) (x:List UInt8) (w:World) (hx:By w 0 w.heap.size xv x) (hxl:x.length≤1099511627776) :
 Calls Tryz.prog 69 #[.int .u8 (n8 tag),xv] w fun e w'=>∃u,e=.returned u∧Q5 w' w.heap.size u (Ah tag x)∧Below w.heap.size w w':=by
 obtain⟨C,hC⟩:∃C:Array Value,C=#[.int .u8 119,.int .u8 105,.int .u8 116,.int .u8 97,.int .u8 110]:=⟨_,rfl⟩;have aG:C.toList=Hd.map v8:=by rw[hC,←A1j]
 have aA:=Go.Lib.run_convert_bytes_const (P:=Tryz.prog) w 45 5 C 5 5 Tryz.underlying45 Tryz.underlying5;have aO:(convert 45 45 (.slice (some ⟨w.heap.size,0,none⟩) 5 5)).run Tryz.prog (w.alloc (.cells #[.int .u8 119,.int .u8 105,.int .u8 116,.int .u8 97,.int .u8 110] 5))=.ok (.slice (some ⟨w.heap.size,0,none⟩) 5 5) (w.alloc (.cells #[.int .u8 119,.int .u8 105,.int .u8 116,.int .u8 97,.int .u8 110] 5 (5,6))):=by rw[hC]at aA;exact aA
 have aH:Below w.heap.size w ((w.alloc (.cells #[.int .u8 119,.int .u8 105,.int .u8 116,.int .u8 97,.int .u8 110] 5 (5,6))).alloc (.cells #[.int .u8 (n8 tag)] 5)):=(Bi _ _).alloc (by simp) _;have aB:∀j u,(Hd.map v8)[j]?=some u→((w.alloc (.cells #[.int .u8 119,.int .u8 105,.int .u8 116,.int .u8 97,.int .u8 110] 5 (5,6))).alloc (.cells #[.int .u8 (n8 tag)] 5)).cell? ⟨w.heap.size,j,none⟩=some u:=fun j u hj=>by
  refine Go.Lib.cell?_alloc_marked _ ?_;rw[cell_of_row _ w.heap.size j #[.int .u8 119,.int .u8 105,.int .u8 116,.int .u8 97,.int .u8 110] 5 (5,6) (heap_alloc_new w _),←hC,←Array.getElem?_toList,aG];exact hj
 have aC:∀j u,([v8 tag]:List Value)[j]?=some u→((w.alloc (.cells #[.int .u8 119,.int .u8 105,.int .u8 116,.int .u8 97,.int .u8 110] 5 (5,6))).alloc (.cells #[.int .u8 (n8 tag)] 5)).cell? ⟨w.heap.size+1,j,none⟩=some u:=fun j u hj=>by
  have h1:=cell_of_row _ (w.alloc (.cells #[.int .u8 119,.int .u8 105,.int .u8 116,.int .u8 97,.int .u8 110] 5 (5,6))).heap.size j #[.int .u8 (n8 tag)] 5 (0,0) (heap_alloc_new (w.alloc (.cells #[.int .u8 119,.int .u8 105,.int .u8 116,.int .u8 97,.int .u8 110] 5 (5,6))) (.cells #[.int .u8 (n8 tag)] 5));have e:(w.alloc (.cells #[.int .u8 119,.int .u8 105,.int .u8 116,.int .u8 97,.int .u8 110] 5 (5,6))).heap.size=w.heap.size+1:=by simp
  rw[e]at h1;rw[h1];simpa [v8] using hj
 obtain⟨i0,aI,aJ,aK,aL⟩:=info_parts A0q;have K1:Hid (some (⟨w.heap.size,0,none⟩:Addr)=none→(5:Nat)=0∧(5:Nat)=0):=Lib.hid (fun h=>by cases h);have K2:Hid ((Hd.map v8).length=5*1):=Lib.hid (by decide);have K3:Hid (∀b:Addr,some (⟨w.heap.size,0,none⟩:Addr)=some b→∀j u,(Hd.map v8)[j]?=some u→((w.alloc (.cells #[.int .u8 119,.int .u8 105,.int .u8 116,.int .u8 97,.int .u8 110] 5 (5,6))).alloc (.cells #[.int .u8 (n8 tag)] 5)).cell? (b.add j)=some u):=Lib.hid (fun b hb j u hj=>by injection hb with hb;subst hb;rw[Bq,Nat.zero_add];exact aB j u hj);have K5:Hid (∀j u,([v8 tag]:List Value)[j]?=some u→((w.alloc (.cells #[.int .u8 119,.int .u8 105,.int .u8 116,.int .u8 97,.int .u8 110] 5 (5,6))).alloc (.cells #[.int .u8 (n8 tag)] 5)).cell? ((⟨w.heap.size+1,0,none⟩:Addr).add j)=some u):=Lib.hid (fun j u hj=>by rw[Bq,Nat.zero_add];exact aC j u hj);have K6:Hid (∀u∈([v8 tag]:List Value),u.oneCell'=true):=Lib.hid (by intro u hu;simp at hu;subst hu;rfl);have HX:=Lib.hid hx;have HI:=Lib.hid aI;have aP:=Lib.hid aJ;have aQ:=Lib.hid aK;have aR:=Lib.hid aL;have HB:=Lib.hid aH;clear hx aI aJ aK aL aB aC hC aG aA aH;go_enter Tryz.func69,Tryz.ntmps69
 go_wp2_with (at_builtin;refine wpList_append_grows _ rfl _ _ 45 rfl 5 i0 _ 1 1 Tryz.underlying45 HI.out aP.out aQ.out aR.out rfl (by decide) (some ⟨w.heap.size,0,none⟩) 5 5 (Hd.map v8) rfl K1.out K2.out K3.out ⟨w.heap.size+1,0,none⟩ 1 1 [v8 tag] rfl rfl K5.out K6.out (by decide) (by decide) (by decide) ?_;intro v' w2 aD aM);have aF:Q5 w2 w.heap.size v' (Hd++[tag]):=by
  refine Q5.less ?_ HB.out.size;exact aD
 have aE:Below w.heap.size w w2:=HB.out.trans ((Below.refl _ _).grown aM HB.out.size (fun k hk=>by cases hk));obtain⟨A2,c2,rfl,_,_⟩:=aF.form;have aN:Hid (Hd.length=5):=Lib.hid rfl;have HF:Hid (C2f w2 (.slice A2 (Hd++[tag]).length c2) (Hd++[tag])):=Lib.hid (.inr ⟨aF.up,by simp,by simp[aN.out]⟩);have aS:=Lib.hid (By.up HX.out aE);clear aF aD aM aO;go_wp2_with fail;refine (A8x _ _ (Hd++[tag]) x w2 HF.out aS.out (by simp[aN.out]) hxl).mono ?_;rintro e w3 ⟨u,rfl,O3,b3⟩;have aT:=Lib.hid O3;clear O3;go_wp2_with fail;go_ret;exact ⟨_,rfl,Q5.less aT.out aE.size,aE.trans (b3.mono aE.size)⟩
theorem By.formE {w:World} {B:Nat} {v:Value} {l:List UInt8} (h:By w 0 B v l):∃A n c,v=.slice A n c:=by
 obtain⟨A,c,rfl,_⟩:=h.open_;exact ⟨_,_,_,rfl⟩
theorem C3m {tag:UInt8} {body:List UInt8} (h:body.length≤1000000):[Ah tag body].flatten.length≤1000000000:=by simp[A0v];omega
noncomputable def Gu (seed:List UInt8) (tag:UInt8) (body:List UInt8):List UInt8:=Nm seed [Ah tag body]
noncomputable def Fq (key:List UInt8) (tag:UInt8) (body sig:List UInt8):Bool:=Dc key sig [Ah tag body]
@[simp, go_sem] theorem Gq (seed : List UInt8) (tag : UInt8) (body : List UInt8) : (Gu seed tag body).length = 64 := Im _ _
theorem B8m (seed:List UInt8) (tag:UInt8) (bv:Value) (body:List UInt8) (hs:seed.length=32) (w:World) (hb:By w 0 w.heap.size bv body) (hbl:body.length≤1000000):Calls Tryz.prog 43 #[A8 seed,.int .u8 (n8 tag),bv] w fun e w'=>e=.returned (A8 (Gu seed tag body))∧Below w.heap.size w w':=by
 have HB:=Lib.hid hb;clear hb;obtain⟨W0,aN⟩:=H8 (((w.alloc (Obj.cells (c8 seed).toArray 23)).alloc (Obj.cells (c8 (z8 64)).toArray 61)));have hL:W0=M2 w [(23,(c8 seed)),(61,(c8 (z8 64)))]:=aN;have B0:=Jc hL;have aA:=Jy hL rfl;have aD:=Gs 1 hL rfl;clear hL;go_enter Tryz.func43,Tryz.ntmps43;go_wp2_with fail;rw[←aN];clear aN;have S1:=Eo W0;refine Dm (fun W=>Bk W (w.heap.size) 23 (c8 seed)) ?_;refine Cf (A:=?bD) [0,1,2] (aA.drew) (fun W hW=>?bB) ?bE;case bB=>have f0:=Bk.row8 (n:=32) (hW) (hs);exact Dd
 refine J2 [zb 3 10 (Ah tag body),zs 4 11 1 [(Ah tag body)],zv 5 12 (A8 (Nm seed [(Ah tag body)]))] (by kernel_rfl) (fun W hW=>(aA.drew.bl hW)) ?aE ?aF ?aG;case aE=>exact Jz
 case aF=>
  refine (N7 ⟨?aO,(N7 ⟨?aP,(N7 ⟨?aQ,Ik⟩)⟩)⟩);case aO=>
   intro o ho us W hW hp Q' hQ';obtain rfl:=Option.some.inj ho;clear hp ho;rw[C8]at hQ' ⊢;dsimp only[F8,I2,List.foldl,zv,za,zs,zp,zb]at hQ' ⊢;simp only[Bu];have bW:=E8 B0 (E8 S1 hW S1.size) B0.size;have aX:=Lib.hid (HB.out.up bW);clear bW;go_wp2_with fail;refine (A5w tag _ body W aX.out (by omega)).mono ?_;rintro e W2 ⟨v2,rfl,aR,b2⟩;have aR:=Lib.hid aR;go_wp2_with fail;exact Cm (hQ' _ _ b2 aR.out.up nofun)
  case aP=>intro o ho us W hW hp Q' hQ';obtain rfl:=Option.some.inj ho;have aB:By W 0 W.heap.size (us 3) (Ah tag body):=hp 0 _ rfl (by kernel_rfl);obtain⟨A3,n3,c3,aS⟩:=aB.formE;rw[aS]at aB;have aB:=Lib.hid aB;clear hp ho;rw[C8]at hQ' ⊢;dsimp only[F8,I2,List.foldl,zv,za,zs,zp,zb]at hQ' ⊢;simp only[Bu];rw[aS]at hQ' ⊢;clear aS;go_wp2_with fail;exact Cm (hQ' _ _ (Bi _ _) ⟨_,rfl,(M9.one W _ _ (Ah tag body) aB.out).more (by simp)⟩ nofun)
  case aQ=>
   intro o ho us W hW hp Q' hQ';obtain rfl:=Option.some.inj ho;have aB:By W 0 W.heap.size (us 3) (Ah tag body):=hp 0 _ rfl (by kernel_rfl);have aB:=Lib.hid aB;obtain⟨aY,aH,aI⟩:=hp 1 _ rfl (by kernel_rfl);have aH:us 4=.slice (some ⟨aY,0,none⟩) 1 1:=aH;have aI:M9 W W.heap.size (.slice (some ⟨aY,0,none⟩) 1 1) [(Ah tag body)]:=by rw[←aH];exact aI
   have aI:=Lib.hid aI;clear hp ho;rw[C8]at hQ' ⊢;dsimp only[F8,I2,List.foldl,zv,za,zs,zp,zb]at hQ' ⊢;simp only[Bu];rw[aH]at hQ' ⊢;clear aH;have bW:=E8 B0 (E8 S1 hW S1.size) B0.size;have aX:=Lib.hid (HB.out.up bW);clear bW;go_wp2_with fail;refine (B7j seed _ [(Ah tag body)] hs W aI.out (by simp) (by simp) (C3m hbl)).mono ?_;rintro e W2 ⟨rfl,b2⟩;go_wp2_with fail;exact Cm (hQ' _ _ b2 rfl nofun)
 case aG=>
 intro us W2 b3 hg aT bC;have aZ:By W2 0 W2.heap.size (us 3) (Ah tag body):=hg _ (M6 0 rfl);have aZ:=Lib.hid aZ;have bA:us 5=(A8 (Nm seed [(Ah tag body)])):=hg _ (M6 2 rfl);have b4:=J5 S1 b3;refine RG' ?_;rw[bA];clear hg aT bC bA b3 S1;have B2:=J5 B0 b4;have aJ:=aA.bl b4;have aC:=aD.bl b4;clear b4 B0 aA aD;obtain⟨W5,aK⟩:=H8 (E0 W2 ⟨w.heap.size+1,0,none⟩ (c8 (Nm seed [(Ah tag body)])));have aU:=P8' 64 aK aC (by simp) (Im seed [(Ah tag body)]);have aV:=I4 aK aJ (by omega);have B5:=Z9 aK B2 (by omega);have aL:=C8' 64 aC (by simp);have aM:(Nm seed [(Ah tag body)]).length=64:=(Im seed [(Ah tag body)]);refine U0 6 fun Q' hQ'=>?_;dsimp only[F8];go_wp2_with fail;rw[←aK];refine hQ' _ _ aV ?_;clear hQ' aL aM;clear aK B2 aJ aC;refine Cu ?_;go_wp2_with fail;have aW:(Nm seed [(Ah tag body)]).length=64:=(Im seed [(Ah tag body)]);refine bodyPost_ret (E5 rfl _ _ _ _ _ _ rfl aU Tryz.underlying61 rfl (by simp[Oc,aW])) rfl ⟨rfl,B5⟩
theorem B2k (key:List UInt8) (tag:UInt8) (bv:Value) (body:List UInt8) (sig:List UInt8) (hk:key.length=32) (hg:sig.length=64) (w:World) (hb:By w 0 w.heap.size bv body) (hbl:body.length≤1000000):Calls Tryz.prog 50 #[A8 key,.int .u8 (n8 tag),bv,A8 sig] w fun e w'=>e=.returned (.bool (Fq key tag body sig))∧Below w.heap.size w w':=by
 have HB:=Lib.hid hb;clear hb;obtain⟨W0,aK⟩:=H8 (((w.alloc (Obj.cells (c8 key).toArray 23)).alloc (Obj.cells (c8 sig).toArray 61)));have hL:W0=M2 w [(23,(c8 key)),(61,(c8 sig))]:=aK;have B0:=Jc hL;have aD:=Jy hL rfl;have aE:=Gs 1 hL rfl;clear hL;go_enter Tryz.func50,Tryz.ntmps50;go_wp2_with fail;rw[←aK];clear aK;have S1:=Eo W0;refine Dm (fun W=>Bk W (w.heap.size) 23 (c8 key)∧Bk W (w.heap.size+1) 61 (c8 sig)) ?_;refine Cf (A:=?aX) [0,1,2,3] ⟨(aD.drew),(aE.drew)⟩ (fun W hW=>?aV) ?aY;case aV=>have f0:=Bk.row8 (n:=32) (hW.1) (hk);have f1:=Bk.row8 (n:=64) (hW.2) (hg);exact Dd
 refine J2 [zb 4 13 (Ah tag body),zs 5 14 1 [(Ah tag body)],zv 6 15 (.bool (Dc key sig [(Ah tag body)])),zv 7 8 (.bool (Dc key sig [(Ah tag body)]))] (by kernel_rfl) (fun W hW=>⟨(aD.drew.bl hW),(aE.drew.bl hW)⟩) ?aF ?aG ?aH;case aF=>exact Jz
 case aG=>
  refine (N7 ⟨?aL,(N7 ⟨?aM,(N7 ⟨?aN,(N7 ⟨?aO,Ik⟩)⟩)⟩)⟩);case aL=>
   intro o ho us W hW hp Q' hQ';obtain rfl:=Option.some.inj ho;clear hp ho;rw[C8]at hQ' ⊢;dsimp only[F8,I2,List.foldl,zv,za,zs,zp,zb]at hQ' ⊢;simp only[Bu];have bW:=E8 B0 (E8 S1 hW S1.size) B0.size;have aS:=Lib.hid (HB.out.up bW);clear bW;go_wp2_with fail;refine (A5w tag _ body W aS.out (by omega)).mono ?_;rintro e W2 ⟨v2,rfl,aP,b2⟩;have aP:=Lib.hid aP;go_wp2_with fail;exact Cm (hQ' _ _ b2 aP.out.up nofun)
  case aM=>intro o ho us W hW hp Q' hQ';obtain rfl:=Option.some.inj ho;have aA:By W 0 W.heap.size (us 4) (Ah tag body):=hp 0 _ rfl (by kernel_rfl);obtain⟨A4,n4,c4,aQ⟩:=aA.formE;rw[aQ]at aA;have aA:=Lib.hid aA;clear hp ho;rw[C8]at hQ' ⊢;dsimp only[F8,I2,List.foldl,zv,za,zs,zp,zb]at hQ' ⊢;simp only[Bu];rw[aQ]at hQ' ⊢;clear aQ;go_wp2_with fail;exact Cm (hQ' _ _ (Bi _ _) ⟨_,rfl,(M9.one W _ _ (Ah tag body) aA.out).more (by simp)⟩ nofun)
  case aN=>
   intro o ho us W hW hp Q' hQ';obtain rfl:=Option.some.inj ho;have aA:By W 0 W.heap.size (us 4) (Ah tag body):=hp 0 _ rfl (by kernel_rfl);have aA:=Lib.hid aA;obtain⟨aI,aB,aC⟩:=hp 1 _ rfl (by kernel_rfl);have aB:us 5=.slice (some ⟨aI,0,none⟩) 1 1:=aB;have aC:M9 W W.heap.size (.slice (some ⟨aI,0,none⟩) 1 1) [(Ah tag body)]:=by rw[←aB];exact aC
   have aC:=Lib.hid aC;clear hp ho;rw[C8]at hQ' ⊢;dsimp only[F8,I2,List.foldl,zv,za,zs,zp,zb]at hQ' ⊢;simp only[Bu];rw[aB]at hQ' ⊢;clear aB;have bW:=E8 B0 (E8 S1 hW S1.size) B0.size;have aS:=Lib.hid (HB.out.up bW);clear bW;go_wp2_with fail;refine (A6n key sig _ [(Ah tag body)] hk hg W aC.out (by simp) (by simp) (C3m hbl)).mono ?_;rintro e W2 ⟨rfl,b2⟩;go_wp2_with fail;exact Cm (hQ' _ _ b2 rfl nofun)
  case aO=>
   intro o ho us W hW hp Q' hQ';obtain rfl:=Option.some.inj ho;have aA:By W 0 W.heap.size (us 4) (Ah tag body):=hp 0 _ rfl (by kernel_rfl);have aA:=Lib.hid aA;obtain⟨aI,aB,aC⟩:=hp 1 _ rfl (by kernel_rfl);have aB:us 5=.slice (some ⟨aI,0,none⟩) 1 1:=aB;have aC:M9 W W.heap.size (.slice (some ⟨aI,0,none⟩) 1 1) [(Ah tag body)]:=by rw[←aB];exact aC
   have aC:=Lib.hid aC;have aJ:us 6=(.bool (Dc key sig [(Ah tag body)])):=hp 2 _ rfl (by kernel_rfl);clear hp ho;rw[C8]at hQ' ⊢;dsimp only[F8,I2,List.foldl,zv,za,zs,zp,zb]at hQ' ⊢;simp only[Bu];rw[aB,aJ]at hQ' ⊢;clear aB aJ;go_wp2_with fail;exact Cm (hQ' _ _ (Below.refl _ _) rfl nofun)
 case aH=>
 intro us W2 b3 hg aR aW;have aT:By W2 0 W2.heap.size (us 4) (Ah tag body):=hg _ (M6 0 rfl);have aT:=Lib.hid aT;have aJ:us 6=(.bool (Dc key sig [(Ah tag body)])):=hg _ (M6 2 rfl);have aU:us 7=(.bool (Dc key sig [(Ah tag body)])):=hg _ (M6 3 rfl);have b4:=J5 S1 b3;refine RG' ?_;rw[aJ,aU];clear hg aR aW aJ aU b3 S1;have B2:=J5 B0 b4;clear b4 B0 aD aE;refine Cu ?_;go_wp2_with fail;go_ret;exact ⟨rfl,B2⟩
def Ib (v:Int):UInt64:=UInt64.ofNat (v % 18446744073709551616).toNat
theorem Ta (v:Int):IntKind.u64.wrap v=J0 (Ib v):=by
 unfold J0 Ib;rw[UInt64.toNat_ofNat'];simp only[IntKind.wrap,IntKind.bits,IntKind.signed,Bool.false_and,Bool.false_eq_true,if_false];omega
def Y8 (ver:Int) (key:List UInt8):List UInt8:=[Y4 (Ib ver),key].flatten
theorem Rx (ver:Int) {key:List UInt8} (h:key.length=32):(Y8 ver key).length=40:=by simp[Y8,h]
theorem A3c (ver:Int) (key:List UInt8) (hk:key.length=32) (w:World):Calls Tryz.prog 44 #[.int .i64 ver,A8 key] w fun e w'=>∃u,e=.returned u∧By w' 0 w'.heap.size u (Y8 ver key)∧Below w.heap.size w w':=by
 have aU:=Ta ver;obtain⟨W0,aJ⟩:=H8 ((w.alloc (Obj.cells (c8 key).toArray 23)));have hL:W0=M2 w [(23,(c8 key))]:=aJ;have B0:=Jc hL;have aD:=Jy hL rfl;clear hL;go_enter Tryz.func44,Tryz.ntmps44;go_wp2_with fail;rw[←aJ];clear aJ;have S1:=Eo W0;refine Dm (fun W=>True) ?_;refine Cf (A:=?aX) [0,1,3] trivial (fun W hW=>?aV) ?aY;case aV=>exact Dd
 refine J2 [zb 2 7 (Y4 (Ib ver)),zs 4 9 2 [(Y4 (Ib ver)),key],zb 5 10 (List.flatten [(Y4 (Ib ver)),key]),zb 6 4 (List.flatten [(Y4 (Ib ver)),key])] (by kernel_rfl) (fun W hW=>trivial) ?aE ?aF ?aG;case aE=>exact Jz
 case aF=>
  refine (N7 ⟨?aK,(N7 ⟨?aL,(N7 ⟨?aM,(N7 ⟨?aN,Ik⟩)⟩)⟩)⟩);case aK=>
   intro o ho us W hW hp Q' hQ';obtain rfl:=Option.some.inj ho;clear hp ho;rw[C8]at hQ' ⊢;dsimp only[F8,I2,List.foldl,zv,za,zs,zp,zb]at hQ' ⊢;simp only[Bu];go_wp2_with fail;refine (Nf (.slice none 0 0) [] (Ib ver) W (.inl ⟨rfl,rfl⟩) (by simp)).mono ?_;rintro e W2 ⟨v2,rfl,aA,b2⟩;have aA:=Lib.hid aA;go_wp2_with fail;exact Cm (hQ' _ _ b2 aA.out.up nofun)
  case aL=>intro o ho us W hW hp Q' hQ';obtain rfl:=Option.some.inj ho;have aA:By W 0 W.heap.size (us 2) (Y4 (Ib ver)):=hp 0 _ rfl (by kernel_rfl);obtain⟨A2,n2,c2,aO⟩:=aA.formE;rw[aO]at aA;have aA:=Lib.hid aA;clear hp ho;rw[C8]at hQ' ⊢;dsimp only[F8,I2,List.foldl,zv,za,zs,zp,zb]at hQ' ⊢;simp only[Bu];rw[aO]at hQ' ⊢;clear aO;have aH:=aD.drew.bl hW;go_wp2_with fail;exact Cm (hQ' _ _ (Bi _ _) ⟨_,rfl,(M9.two W _ _ _ (Y4 (Ib ver)) key aA.out (Bk.byAll (aH) hk (by decide))).more (by simp)⟩ nofun)
  case aM=>
   intro o ho us W hW hp Q' hQ';obtain rfl:=Option.some.inj ho;have aA:By W 0 W.heap.size (us 2) (Y4 (Ib ver)):=hp 0 _ rfl (by kernel_rfl);have aA:=Lib.hid aA;obtain⟨aI,aB,aC⟩:=hp 1 _ rfl (by kernel_rfl);have aB:us 4=.slice (some ⟨aI,0,none⟩) 2 2:=aB;have aC:M9 W W.heap.size (.slice (some ⟨aI,0,none⟩) 2 2) [(Y4 (Ib ver)),key]:=by rw[←aB];exact aC
   have aC:=Lib.hid aC;clear hp ho;rw[C8]at hQ' ⊢;dsimp only[F8,I2,List.foldl,zv,za,zs,zp,zb]at hQ' ⊢;simp only[Bu];rw[aB]at hQ' ⊢;clear aB;go_wp2_with fail;refine (B1u _ [(Y4 (Ib ver)),key] W aC.out (by simp;omega)).mono ?_;rintro e W2 ⟨v2,rfl,aA,b2⟩;have aA:=Lib.hid aA;go_wp2_with fail;exact Cm (hQ' _ _ b2 aA.out.up nofun)
  case aN=>
   intro o ho us W hW hp Q' hQ';obtain rfl:=Option.some.inj ho;have aA:By W 0 W.heap.size (us 2) (Y4 (Ib ver)):=hp 0 _ rfl (by kernel_rfl);have aA:=Lib.hid aA;obtain⟨aI,aB,aC⟩:=hp 1 _ rfl (by kernel_rfl);have aB:us 4=.slice (some ⟨aI,0,none⟩) 2 2:=aB;have aC:M9 W W.heap.size (.slice (some ⟨aI,0,none⟩) 2 2) [(Y4 (Ib ver)),key]:=by rw[←aB];exact aC
   have aC:=Lib.hid aC;have aP:By W 0 W.heap.size (us 5) (List.flatten [(Y4 (Ib ver)),key]):=hp 2 _ rfl (by kernel_rfl);have aP:=Lib.hid aP;clear hp ho;rw[C8]at hQ' ⊢;dsimp only[F8,I2,List.foldl,zv,za,zs,zp,zb]at hQ' ⊢;simp only[Bu];rw[aB]at hQ' ⊢;clear aB;go_wp2_with fail;exact Cm (hQ' _ _ (Below.refl _ _) aP.out nofun)
 case aG=>
 intro us W2 b3 hg aQ aW;have aS:By W2 0 W2.heap.size (us 2) (Y4 (Ib ver)):=hg _ (M6 0 rfl);have aS:=Lib.hid aS;have aT:By W2 0 W2.heap.size (us 5) (List.flatten [(Y4 (Ib ver)),key]):=hg _ (M6 2 rfl);have aT:=Lib.hid aT;have aR:By W2 0 W2.heap.size (us 6) (List.flatten [(Y4 (Ib ver)),key]):=hg _ (M6 3 rfl);have aR:=Lib.hid aR;have b4:=J5 S1 b3;refine RG' ?_;clear hg aQ aW b3 S1;have B2:=J5 B0 b4;clear b4 B0 aD;refine Cu ?_;go_wp2_with fail;go_ret;exact ⟨_,rfl,aR.out,B2⟩
section
structure UV where
 id:List UInt8
 ver:Int
 key:List UInt8
 sig:List UInt8
structure UV.Ok (u : UV) : Prop where
 id:u.id.length=32
 key:u.key.length=32
 sig:u.sig.length=64
def Dt (u:UV):List Value:=c8 u.id++(.int .i64 u.ver::(c8 u.key++c8 u.sig))
def UV.length (u:UV):Nat:=(Dt u).length
def Vs (u:UV):Value:=.agg (Dt u).toArray
def Un (_:Nat):UV:=⟨z8 32,0,z8 32,z8 64⟩
theorem UV.Ok.len {u:UV} (h:u.Ok):u.length=129:=by unfold UV.length Dt;simp[h.id,h.key,h.sig]
theorem Nr (n:Nat):(Un n).Ok:=⟨by simp[Un],by simp[Un],by simp[Un]⟩
theorem Du (u:UV):(Dt u).length=u.length:=rfl
theorem A2m (u:UV):∀x∈Dt u,x.oneCell'=true:=by
 intro x hx;simp only[Dt,List.mem_append,List.mem_cons]at hx;rcases hx with hx | rfl | hx | hx
 ·obtain⟨y,_,rfl⟩:=List.mem_map.1 hx;rfl
 ·rfl
 ·obtain⟨y,_,rfl⟩:=List.mem_map.1 hx;rfl
 ·obtain⟨y,_,rfl⟩:=List.mem_map.1 hx;rfl
theorem A1e:(Tryz.prog.info? 63).map (·.size)=some 129:=by kernel_rfl
theorem A9u:((Tryz.prog.info? 63).bind (·.zero))=some (Vs (Un 129)):=by kernel_rfl
theorem Ud:Tryz.prog.underlying 63=some (.struct (U1 Tryz.prog 63)):=by kernel_rfl
@[go_sem] theorem E2d (u : UV) : Value.agg (Dt u).toArray = Vs u := rfl
@[go_sem] theorem D2t (t : TypeId) (w : World) (raw : Result Next) (u : UV) : Rs t w raw (Vs u) = .ok (.value (.pointer (some ⟨w.heap.size, 0, none⟩))) (w.alloc (.cells (Dt u).toArray t)) := rfl
@[go_sem] theorem C5s (n : Nat) (w : World) (raw : Result Next) (a : Addr) (u : UV) : Cr n w raw (.pointer (some a)) (Vs u) =
 if u.length=n∧P7 w a n=true then .ok .skip (E0 w a (Dt u)) else raw:=by
 have h1:((Dt u).toArray.all (·.oneCell'))=true:=by rw[Array.all_eq_true'];intro x hx;exact A2m u x (by simpa using hx)
 unfold Vs;rw[A7h,h1];simp only[List.size_toArray,true_and,Du]
section
variable (w : World) (ρ : Operand → Value) (dst : Option Tmp) (ty : TypeId) (pos : String) (after : Array Edge) (guard : Option (Nat × Bool))
@[go_sem ↓ high] theorem D9s:RL' 63 129:=LL' Ud A1e
@[go_sem ↓ high] theorem D4h:RS' 63 129:=SS' A1e
@[go_sem ↓ high] theorem D2g:RA' 63 (Dt (Un 129)).toArray:=fun w ρ dst ty pos after guard=>Q0 w ρ dst ty pos after guard 63 (Vs (Un 129)) A9u
@[go_sem ↓ high] theorem E1a:RB' 63:=BX' _
end
theorem B3e (w:World):(Ep (U1 Tryz.prog 63)).run Tryz.prog w=.ok #[(0,32),(32,1),(33,32),(65,64)] w:=by kernel_rfl
noncomputable def C1g (w:World) (raw:Result Next) (a b c d:Value):Result Next:=match Cj a,b,Cj c,Cj d with
 | some i,.int .i64 v,some k,some s=>if i.length=32∧k.length=32∧s.length=64 then .ok (.value (Vs ⟨i,v,k,s⟩)) w else raw
 | _,_,_,_=>raw
@[go_sem] theorem D9c (w : World) (raw : Result Next) (i k s : List UInt8) (v : Int) (hi : i.length = 32) (hk : k.length = 32) (hs : s.length = 64) : C1g w raw (A8 i) (.int .i64 v) (A8 k) (A8 s) = .ok (.value (Vs ⟨i, v, k, s⟩)) w := by
 unfold C1g;simp only[Cy];simp[hi,hk,hs]
theorem C6s (i k s:List UInt8) (v:Int) (hi:i.length=32) (hk:k.length=32) (hs:s.length=64) (w:World):(Instr.build 63 #[(0,A8 i),(1,.int .i64 v),(2,A8 k),(3,A8 s)]).run Tryz.prog w=.ok (Vs ⟨i,v,k,s⟩) w:=by
 have aA:(Vs (Un 129)).cells.toList=c8 (z8 32)++(.int .i64 0::(c8 (z8 32)++c8 (z8 64))):=rfl;have h1:=U5 Ud A9u w (B3e w) #[(0,A8 i),(1,.int .i64 v),(2,A8 k),(3,A8 s)] [(0,c8 i),(32,[.int .i64 v]),(33,c8 k),(65,c8 s)] (by
  rw[aA];exact ⟨by simp[hi],rfl,by simp[hi],by simp,rfl,by simp,by simp[hk],rfl,by simp[hk],by simp[hs],rfl,by simp[hs],trivial⟩)
 refine h1.trans (congrArg (fun (cs:List Value)=>Result.ok (Value.agg cs.toArray) w) ?_);rw[aA];simp[Fs,Af,hi,hk,hs,List.take_append,List.drop_append,List.drop_eq_nil_of_le,List.take_of_length_le,Dt,c8]
@[go_sem ↓ high] theorem D2s (w : World) (ρ : Operand → Value) (dst : Option Tmp) (ty : TypeId) (pos : String) (after : Array Edge) (guard : Option (Nat × Bool)) (x y z t : Operand) :
 (execOp ρ { dst,op:=.build 63 #[(0,x),(1,y),(2,z),(3,t)],type:=ty,pos,after,guard }).run Tryz.prog w=C1g w (N8 Tryz.prog ρ { dst,op:=.build 63 #[(0,x),(1,y),(2,z),(3,t)],type:=ty,pos,after,guard } w) (ρ x) (ρ y) (ρ z) (ρ t):=by
 generalize h0:ρ x=a;generalize h1:ρ y=b;generalize h2:ρ z=c;generalize h3:ρ t=d;unfold C1g;split
 ·rename_i i v k s g0 g1 g2
  replace g0:=U7 g0;replace g1:=U7 g1;replace g2:=U7 g2;split
  ·rename_i h
   refine P5 w ρ dst ty pos after guard _ _ _ ?_;simp only[List.map_toArray,List.map_cons,List.map_nil,h0,h1,h2,h3,g0,g1,g2];exact C6s i k s v h.1 h.2.1 h.2.2 w
  ·rfl
 ·rfl
section
variable {w : World} {g : Nat} {t : TypeId} {u m : UV} {n : Nat}
theorem Bk.rowvc (K:Bk w g t (Dt u)) (hu:u.length=n):I6 w ⟨g,0,none⟩ n=some (Dt u):=by have:=K.rows;rwa [Du,hu]at this
theorem Bk.canvc (K:Bk w g t (Dt u)) (hu:u.length=n):P7 w ⟨g,0,none⟩ n=true:=K.can (by rw[Du,hu];omega)
theorem Bk.putvc (K:Bk w g t (Dt u)) (hu:u.length=n) (hm:m.length=n):Bk (E0 w ⟨g,0,none⟩ (Dt m)) g t (Dt m):=K.puts (by rw[Du,Du,hu,hm])
theorem UV.loadid (K:Bk w g t (Dt u)) (h:u.Ok):I6 w ⟨g,0,none⟩ 32=some (c8 u.id):=by
 rw[K.rowMid 0 32 (by rw[Du,h.len];decide)];simp[Dt,h.id]
theorem UV.loadver (K:Bk w g t (Dt u)) (h:u.Ok):w.cell? ⟨g,32,none⟩=some (.int .i64 u.ver):=by
 refine K.at_ ?_;simp[Dt,h.id]
theorem UV.loadkey (K:Bk w g t (Dt u)) (h:u.Ok):I6 w ⟨g,33,none⟩ 32=some (c8 u.key):=by
 rw[K.rowMid 33 32 (by rw[Du,h.len];decide)];simp[Dt,h.id,h.key,List.drop_append,List.drop_eq_nil_of_le]
theorem UV.loadsig (K:Bk w g t (Dt u)) (h:u.Ok):I6 w ⟨g,65,none⟩ 64=some (c8 u.sig):=by
 rw[K.rowMid 65 64 (by rw[Du,h.len];decide)];simp[Dt,h.id,h.key,h.sig,List.drop_append,List.drop_eq_nil_of_le,List.take_of_length_le]
end
end
end Go.Proofs.YtlegpkdighoflaaGreat
