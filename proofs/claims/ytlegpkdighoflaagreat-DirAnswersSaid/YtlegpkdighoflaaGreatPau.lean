/- A part of the proof of DirAnswers. -/
import Derived.Lib.SlBytesConst
import Derived.Test.YtlegpkdighoflaaGreatPat
set_option linter.unusedVariables false
set_option linter.unusedSimpArgs false
set_option maxRecDepth 100000
set_option maxHeartbeats 40000000
namespace Go.Proofs.YtlegpkdighoflaaGreat
open Go Go.RowKit Sh
noncomputable def vfK (key sig:List UInt8) (ps:List (List UInt8)):List UInt64:=J5 (H7 sig 0::key::ps)
noncomputable def vfH (key sig:List UInt8) (ps:List (List UInt8)):List UInt8:=I9 (Mc (I7 (Dq (H7 sig 32))) (Mf (Ed key)) (I7 (vfK key sig ps)))
noncomputable def Ez (key sig:List UInt8) (ps:List (List UInt8)):Bool:=Iq key&&(!Qa (Ed key)&&(Rf (H7 sig 32)&&vfH key sig ps==H7 sig 0))
theorem D0n {key:List UInt8} (h:Iq key=false):Zb key=50:=(Zq h).2
theorem C4z {key:List UInt8} (h:Iq key=true):Zb key=0:=if_pos h
theorem D3k {key sig:List UInt8} {ps:List (List UInt8)} (h:Iq key=false):Ez key sig ps=false:=by unfold Ez;rw[h,Bool.false_and]
theorem D4v {key sig:List UInt8} {ps:List (List UInt8)} (h:Qa (Ed key)=true):Ez key sig ps=false:=by unfold Ez;rw[h];simp
theorem D3g {key sig:List UInt8} {ps:List (List UInt8)} (h:Rf (H7 sig 32)=false):Ez key sig ps=false:=by unfold Ez;rw[h];simp
theorem D3r {key sig:List UInt8} {ps:List (List UInt8)} (h1:Iq key=true) (h2:Qa (Ed key)=false) (h3:Rf (H7 sig 32)=true):Ez key sig ps=(vfH key sig ps==H7 sig 0):=by unfold Ez;rw[h1,h2,h3,Bool.not_false,Bool.true_and,Bool.true_and,Bool.true_and]
theorem B4p (key sig:List UInt8) (ps:List (List UInt8)):(vfH key sig ps).length=32:=O7 _
theorem B4r (key sig:List UInt8) (vp:Value) (ps:List (List UInt8)) (hk:key.length=32) (hg:sig.length=64) (w:World) (hp:N8 w w.heap.size vp ps) (hp0:0<ps.length) (hpl:ps.length≤1000) (hpf:ps.flatten.length≤1000000000):Calls Tryz.prog 73 #[A8 key,A8 sig,vp] w fun e w'=>e=.returned (.bool (Ez key sig ps))∧Below w.heap.size w w':=by
 have HP:=Lib.hid hp;clear hp;have gT:=Km hg 0 (by decide);have gU:=Km hg 32 (by decide);have iL:=B4p key sig ps;obtain⟨W0,fJ⟩:=F9 (((w.alloc (Obj.cells (c8 key).toArray 23)).alloc (Obj.cells (c8 sig).toArray 61)));have hL:W0=M9 w [(23,(c8 key)),(61,(c8 sig))]:=fJ;have B0:=Ki hL;have cV:=Ko hL rfl;have eJ:=Ig 1 hL rfl;have z0:=Za 2 hL rfl;have gV:=SL' 2 hL rfl;clear hL;have f1:=Bk.row8 (n:=32) (cV) (hk);rw[fJ]at f1;go_enter Tryz.func73,Tryz.ntmps73;go_wp2_with fail;rw[←fJ];clear f1;clear fJ gV;refine (B4c key hk W0).mono ?_;rintro e W2 ⟨rfl,b3⟩;have B2:=K9 B0 b3;have z2:=Nat.le_trans z0 b3.size;have cW:=cV.bl b3;have cX:=eJ.bl b3;clear b3 B0 z0 cV eJ;cases hok:Iq key;case false=>
  have HV:=Lib.hid (D3k (sig:=sig) (ps:=ps) hok);rw[D0n hok];clear hok;obtain⟨V4,dW⟩:=F9 (W2.alloc (Obj.cells (C9 (J2 20)).toArray 140));have eK:W2.heap.size=W2.heap.size:=rfl;have bE:Bk V4 (W2.heap.size) 140 (C9 (J2 20)):=by rw[dW,←eK];exact Bk.new W2 _ _
  have fY:=Lk dW B2;have aA:=Aj eK cW;have aB:=Aj eK cX;have bF:w.heap.size+2≤W2.heap.size:=by rw[←eK];exact Nat.le_trans z2 (Nat.le_refl _)
  clear eK;obtain⟨V5,eL⟩:=F9 (D8 V4 ⟨W2.heap.size,0,none⟩ (C9 (Ed key).row));have eM:=Fi 20 eL bE (by simp) ((Kx key).row);have gW:=Bi eL fY (by omega);have bZ:=Ee 20 bE (by simp);rw[dW]at bZ;have aQ:(Ed key).row.length=20:=(Kx key).row;go_wp2_with fail;rw[←dW,←eL];clear bZ aQ;obtain⟨p6,fL⟩:=F9 (W2.heap.size);rw[←fL]at eM aA aB bF;try rw[←fL]
  have iM:w.heap.size+2≤V5.heap.size:=by have hz:=z2;rw[eL,dW];first | (simp;omega) | (simp[World.setCell];omega)
  clear dW eL fL z2 bE fY;go_ret;exact ⟨by rw[HV.out];rfl,gW⟩
 case true=>
  rw[C4z hok];have HK:=Lib.hid hok;clear hok;obtain⟨V7,bY⟩:=F9 (W2.alloc (Obj.cells (C9 (J2 20)).toArray 140));have eN:W2.heap.size=W2.heap.size:=rfl;have bG:Bk V7 (W2.heap.size) 140 (C9 (J2 20)):=by rw[bY,←eN];exact Bk.new W2 _ _
  have cA:=Ac bY cW;have cB:=Ac bY cX;have fZ:=Lk bY B2;have aA:=Aj eN cW;have aB:=Aj eN cX;have bF:w.heap.size+2≤W2.heap.size:=by rw[←eN];exact Nat.le_trans z2 (Nat.le_refl _)
  clear eN;obtain⟨V8,cC⟩:=F9 (D8 V7 ⟨W2.heap.size,0,none⟩ (C9 (Ed key).row));have aW:=Fi 20 cC bG (by simp) ((Kx key).row);have cD:=J3 cC cA (by omega);have cE:=J3 cC cB (by omega);have gA:=Bi cC fZ (by omega);have cF:=Ee 20 bG (by simp);rw[bY]at cF;have f9:=Bk.row64 (n:=20) (aW) ((Kx key).row);rw[cC,bY]at f9;have aQ:(Ed key).row.length=20:=(Kx key).row;go_wp2_with fail;rw[←bY,←cC];clear cF f9 aQ;obtain⟨gY,cY⟩:=F9 (W2.heap.size);rw[←cY]at aW aA aB bF;try rw[←cY]
  have gB:w.heap.size+2≤V8.heap.size:=by have hz:=z2;rw[cC,bY];first | (simp;omega) | (simp[World.setCell];omega)
  clear bY cC cY z2 cA cB bG fZ;refine (B3u (Ed key) (Kx key) V8).mono ?_;rintro e gZ ⟨rfl,dX⟩;have fM:=K9 gA dX;have gC:=Nat.le_trans gB dX.size;have cG:=cD.bl dX;have bH:=cE.bl dX;have cH:=aW.bl dX;clear dX gA gB cD cE aW;cases hsm:Qa (Ed key);case false=>
   have HS:=Lib.hid hsm;clear hsm;have hF:=Bk.xyAt (bH) hg 32 (by decide);go_wp2_with fail;clear hF;refine (C3t (H7 sig 32) (Km hg 32 (by decide)) gZ).mono ?_;rintro e aP ⟨rfl,dY⟩;have gE:=K9 fM dY;have dZ:=Nat.le_trans gC dY.size;have bI:=cG.bl dY;have bJ:=bH.bl dY;have bK:=cH.bl dY;clear dY fM gC cG bH cH;cases hsn:Rf (H7 sig 32);case false=>
    have HV:=Lib.hid (D3g (key:=key) (ps:=ps) hsn);clear hsn;obtain⟨gF,aY⟩:=F9 (aP.alloc (Obj.cells (C9 (J2 4)).toArray 184));have aZ:aP.heap.size=aP.heap.size:=rfl;have aR:Bk gF (aP.heap.size) 184 (C9 (J2 4)):=by rw[aY,←aZ];exact Bk.new aP _ _
    have eO:=Lk aY gE;have aC:=Aj aZ bI;have aD:=Aj aZ bJ;have aE:=Aj aZ bK;have bL:w.heap.size+2≤aP.heap.size:=by rw[←aZ];exact Nat.le_trans dZ (Nat.le_refl _)
    clear aZ;obtain⟨hJ,bM⟩:=F9 (D8 gF ⟨aP.heap.size,0,none⟩ (C9 (Dq (H7 sig 32))));have cZ:=Fi 4 bM aR (by simp) (Gr (H7 sig 32));have fN:=Bi bM eO (by omega);have bN:=Ee 4 aR (by simp);rw[aY]at bN;have aQ:(Dq (H7 sig 32)).length=4:=(Gr (H7 sig 32));go_wp2_with fail;rw[←aY,←bM];clear bN aQ;obtain⟨iN,dB⟩:=F9 (aP.heap.size);rw[←dB]at cZ aC aD aE bL;try rw[←dB]
    have hY:w.heap.size+2≤hJ.heap.size:=by have hz:=dZ;rw[bM,aY];first | (simp;omega) | (simp[World.setCell];omega)
    clear aY bM dB dZ aR eO;go_ret;exact ⟨by rw[HV.out];rfl,fN⟩
   case true=>
    have HV:=Lib.hid (D3r (ps:=ps) HK.out HS.out hsn);clear hsn;obtain⟨gG,aG⟩:=F9 (aP.alloc (Obj.cells (C9 (J2 4)).toArray 184));have bA:aP.heap.size=aP.heap.size:=rfl;have aS:Bk gG (aP.heap.size) 184 (C9 (J2 4)):=by rw[aG,←bA];exact Bk.new aP _ _
    have bO:=Ac aG bI;have bP:=Ac aG bJ;have bQ:=Ac aG bK;have eP:=Lk aG gE;have aC:=Aj bA bI;have aD:=Aj bA bJ;have aE:=Aj bA bK;have bL:w.heap.size+2≤aP.heap.size:=by rw[←bA];exact Nat.le_trans dZ (Nat.le_refl _)
    clear bA;obtain⟨gH,aM⟩:=F9 (D8 gG ⟨aP.heap.size,0,none⟩ (C9 (Dq (H7 sig 32))));have aH:=Fi 4 aM aS (by simp) (Gr (H7 sig 32));have aI:=J3 aM bO (by omega);have aJ:=J3 aM bP (by omega);have aT:=J3 aM bQ (by omega);have bB:=Bi aM eP (by omega);have bR:=Ee 4 aS (by simp);rw[aG]at bR;have aQ:(Dq (H7 sig 32)).length=4:=(Gr (H7 sig 32));go_wp2_with fail;rw[←aG,←aM];clear bR aQ;obtain⟨iA,dC⟩:=F9 (aP.heap.size);rw[←dC]at aH aC aD aE bL;try rw[←dC]
    have dD:w.heap.size+2≤gH.heap.size:=by have hz:=dZ;rw[aM,aG];first | (simp;omega) | (simp[World.setCell];omega)
    clear aG aM dC dZ bO bP bQ aS eP;have dE:=Fx gH;refine Fa (fun W=>True) ?_;refine Df (A:=?iB) [0,1,2] trivial (fun W hW=>?fO) ?iC;case fO=>
     exact Ei
    refine J8 [zs 3 36 2 [(H7 sig 0),key],zp 4 37 ((H7 sig 0)::key::ps),zv 5 38 (H9 (J5 ((H7 sig 0)::key::ps))),za 6 11 184 (C9 (J2 4))] (by kernel_rfl) (fun W hW=>trivial) ?dF ?dG ?dH;case dF=>exact Ln
    case dG=>
     refine (P5 ⟨?eQ,(P5 ⟨?eS,(P5 ⟨?eT,(P5 ⟨?eU,Kh⟩)⟩)⟩)⟩);case eQ=>
      intro o ho us W hW hp Q' hQ';obtain rfl:=Option.some.inj ho;clear hp ho;rw[C7]at hQ' ⊢;dsimp only[F0,H8,List.foldl,zv,za,zs,zp,zb]at hQ' ⊢;simp only[Ch];have eV:=aJ.drew.bl hW;have eX:=aI.drew.bl hW;go_wp2_with fail;exact Cz (hQ' _ _ (Aw _ _) ⟨_,rfl,(N8.two W _ _ _ (H7 sig 0) key (Bk.by (eV) 0 32 64 (by have hh:=hg;omega) (by decide) (by decide) rfl) (Bk.byAll (eX) hk (by decide))).more (by simp)⟩ nofun)
     case eS=>
      intro o ho us W hW hp Q' hQ';obtain rfl:=Option.some.inj ho;obtain⟨gI,aX,eY⟩:=hp 0 _ rfl (by kernel_rfl);have aX:us 3=.slice (some ⟨gI,0,none⟩) 2 2:=aX;have eY:N8 W W.heap.size (.slice (some ⟨gI,0,none⟩) 2 2) [(H7 sig 0),key]:=by rw[←aX];exact eY
      have eY:=Lib.hid eY;clear hp ho;rw[C7]at hQ' ⊢;dsimp only[F0,H8,List.foldl,zv,za,zs,zp,zb]at hQ' ⊢;simp only[Ch];rw[aX]at hQ' ⊢;clear aX;have bW:=E3 bB (E3 dE hW dE.size) bB.size;have dI:=Lib.hid (HP.out.up bW);clear bW;go_wp2_with fail;refine (A0p _ _ _ _ [(H7 sig 0),key] ps W eY.out dI.out hp0 (by simp;omega)).mono ?_;rintro e W2 ⟨v2,rfl,fP,b2⟩;have fP:=Lib.hid fP;go_wp2_with fail;exact Cz (hQ' _ _ b2 fP.out nofun)
     case eT=>intro o ho us W hW hp Q' hQ';obtain rfl:=Option.some.inj ho;have fQ:N8 W W.heap.size (us 4) ((H7 sig 0)::key::ps):=hp 1 _ rfl (by kernel_rfl);have fQ:=Lib.hid fQ;clear hp ho;rw[C7]at hQ' ⊢;dsimp only[F0,H8,List.foldl,zv,za,zs,zp,zb]at hQ' ⊢;simp only[Ch];have bW:=E3 bB (E3 dE hW dE.size) bB.size;have dI:=Lib.hid (HP.out.up bW);clear bW;go_wp2_with fail;refine (Qm _ ((H7 sig 0)::key::ps) W fQ.out (A5j (D0y (Km hg 0 (by decide)) hk) hpf)).mono ?_;rintro e W2 ⟨rfl,b2⟩;go_wp2_with fail;exact Cz (hQ' _ _ b2 rfl nofun)
     case eU=>exact P8 rfl rfl (fun ρ W=>B1b W ρ _ _ _ _ _)
    case dH=>
    intro us iD gJ hg dJ eZ;have cI:us 5=(H9 (J5 ((H7 sig 0)::key::ps))):=hg _ (O8 2 rfl);obtain⟨fR,bS,aU⟩:=hg _ (O8 3 rfl);have bS:us 6=.pointer (some ⟨fR,0,none⟩):=bS;have eA:=Cc (eZ _ (O8 3 rfl) rfl) bS;have dK:=K9 dE gJ;have eB:=X3 aI eA.1;have eC:=X3 aJ eA.1;have eD:=X3 aT eA.1;have eE:=X3 aH eA.1;have fS:=Nat.le_trans dD (Nat.le_trans dE.size eA.1);clear eA;refine RG' ?_;rw[cI,bS];clear hg dJ eZ cI bS gJ dE;have gK:=K9 bB dK;have gL:=Nat.le_trans dD dK.size;have cJ:=aI.bl dK;have cK:=aJ.bl dK;have cL:=aT.bl dK;have cM:=aH.bl dK;clear dK bB dD aI aJ aT aH;obtain⟨iE,aK⟩:=F9 (D8 iD ⟨fR,0,none⟩ (C9 (J5 ((H7 sig 0)::key::ps))));have aF:=Fi 4 aK aU (by simp) (Ah ((H7 sig 0)::key::ps));have cN:=J3 aK cJ (by omega);have bT:=J3 aK cK (by omega);have aN:=J3 aK cL (by omega);have aO:=J3 aK cM (by omega);have bD:=Bi aK gK (by omega);have dL:=Ee 4 aU (by simp);have dM:(J5 ((H7 sig 0)::key::ps)).length=4:=(Ah ((H7 sig 0)::key::ps));refine U7 7 fun Q' hQ'=>?_;dsimp only[F0];go_wp2_with fail;rw[←aK];refine hQ' _ _ trivial ?_;clear hQ' dL dM;have fT:=Il aK gL;clear aK gK gL cJ cK cL cM aU;refine Ef ?_;go_wp2_with fail;have bC:=Fx iE
    refine Fa (fun W=>Bk W (fR) 184 (C9 (J5 ((H7 sig 0)::key::ps)))∧Bk W (gY) 140 (C9 (Ed key).row)∧Bk W (iA) 184 (C9 (Dq (H7 sig 32)))) ?_;refine Df (A:=?iF) [0,2,4] ⟨(aF.drew),(aN.drew),(aO.drew)⟩ (fun W hW=>?fU) ?iG;case fU=>
     have f0:=Bk.row64 (n:=4) (hW.2.2) ((Gr (H7 sig 32)));have f2:=Bk.row64 (n:=20) (hW.2.1) ((Kx key).row);have f4:=Bk.row64 (n:=4) (hW.1) ((Ah ((H7 sig 0)::key::ps)));exact Ei
    refine J8 [zv 1 40 (A8 (I7 (Dq (H7 sig 32)))),zv 3 42 (H9 (Mf (Ed key)).row),zv 5 44 (A8 (I7 (J5 ((H7 sig 0)::key::ps)))),zv 6 45 (H9 (Mc (I7 (Dq (H7 sig 32))) (Mf (Ed key)) (I7 (J5 ((H7 sig 0)::key::ps)))).row),zv 7 46 (A8 (I9 (Mc (I7 (Dq (H7 sig 32))) (Mf (Ed key)) (I7 (J5 ((H7 sig 0)::key::ps)))))),za 8 12 23 (c8 (z8 32))] (by kernel_rfl) (fun W hW=>⟨(aF.drew.bl hW),(aN.drew.bl hW),(aO.drew.bl hW)⟩) ?dN ?dO ?dP;case dN=>exact Ln
    case dO=>
     refine (P5 ⟨?fC,(P5 ⟨?fD,(P5 ⟨?fE,(P5 ⟨?fF,(P5 ⟨?fG,(P5 ⟨?fH,Kh⟩)⟩)⟩)⟩)⟩)⟩);case fC=>
      intro o ho us W hW hp Q' hQ';obtain rfl:=Option.some.inj ho;clear hp ho;rw[C7]at hQ' ⊢;dsimp only[F0,H8,List.foldl,zv,za]at hQ' ⊢;simp only[Ch];have bW:=E3 bD (E3 bC hW bC.size) bD.size;have dI:=Lib.hid (HP.out.up bW);clear bW;go_wp2_with fail;refine (Ru (Dq (H7 sig 32)) (Gr (H7 sig 32)) W).mono ?_;rintro e W2 ⟨rfl,b2⟩;go_wp2_with fail;exact Cz (hQ' _ _ b2 rfl nofun)
     case fD=>intro o ho us W hW hp Q' hQ';obtain rfl:=Option.some.inj ho;have cO:us 1=(A8 (I7 (Dq (H7 sig 32)))):=hp 0 _ rfl (by kernel_rfl);clear hp ho;rw[C7]at hQ' ⊢;dsimp only[F0,H8,List.foldl,zv,za]at hQ' ⊢;simp only[Ch];rw[cO]at hQ' ⊢;clear cO;have bW:=E3 bD (E3 bC hW bC.size) bD.size;have dI:=Lib.hid (HP.out.up bW);clear bW;go_wp2_with fail;refine (C8a (Ed key) (Kx key) W).mono ?_;rintro e W2 ⟨rfl,b2⟩;go_wp2_with fail;exact Cz (hQ' _ _ b2 rfl nofun)
     case fE=>intro o ho us W hW hp Q' hQ';obtain rfl:=Option.some.inj ho;have aX:us 3=(H9 (Mf (Ed key)).row):=hp 1 _ rfl (by kernel_rfl);clear hp ho;rw[C7]at hQ' ⊢;dsimp only[F0,H8,List.foldl,zv,za]at hQ' ⊢;simp only[Ch];rw[aX]at hQ' ⊢;clear aX;have bW:=E3 bD (E3 bC hW bC.size) bD.size;have dI:=Lib.hid (HP.out.up bW);clear bW;go_wp2_with fail;refine (Ru (J5 ((H7 sig 0)::key::ps)) (Ah ((H7 sig 0)::key::ps)) W).mono ?_;rintro e W2 ⟨rfl,b2⟩;go_wp2_with fail;exact Cz (hQ' _ _ b2 rfl nofun)
     case fF=>intro o ho us W hW hp Q' hQ';obtain rfl:=Option.some.inj ho;have cO:us 1=(A8 (I7 (Dq (H7 sig 32)))):=hp 0 _ rfl (by kernel_rfl);have aX:us 3=(H9 (Mf (Ed key)).row):=hp 1 _ rfl (by kernel_rfl);have cI:us 5=(A8 (I7 (J5 ((H7 sig 0)::key::ps)))):=hp 2 _ rfl (by kernel_rfl);clear hp ho;rw[C7]at hQ' ⊢;dsimp only[F0,H8,List.foldl,zv,za]at hQ' ⊢;simp only[Ch];rw[cO,aX,cI]at hQ' ⊢;clear cO aX cI;have bW:=E3 bD (E3 bC hW bC.size) bD.size;have dI:=Lib.hid (HP.out.up bW);clear bW;go_wp2_with fail;refine (C6c (I7 (Dq (H7 sig 32))) (Mf (Ed key)) (I7 (J5 ((H7 sig 0)::key::ps))) (Z8 (Dq (H7 sig 32))) (C8j (Kx key)) (Z8 (J5 ((H7 sig 0)::key::ps))) W).mono ?_;rintro e W2 ⟨rfl,b2⟩;go_wp2_with fail;exact Cz (hQ' _ _ b2 rfl nofun)
     case fG=>intro o ho us W hW hp Q' hQ';obtain rfl:=Option.some.inj ho;have bS:us 6=(H9 (Mc (I7 (Dq (H7 sig 32))) (Mf (Ed key)) (I7 (J5 ((H7 sig 0)::key::ps)))).row):=hp 3 _ rfl (by kernel_rfl);clear hp ho;rw[C7]at hQ' ⊢;dsimp only[F0,H8,List.foldl,zv,za]at hQ' ⊢;simp only[Ch];rw[bS]at hQ' ⊢;clear bS;have bW:=E3 bD (E3 bC hW bC.size) bD.size;have dI:=Lib.hid (HP.out.up bW);clear bW;go_wp2_with fail;refine (Nw (Mc (I7 (Dq (H7 sig 32))) (Mf (Ed key)) (I7 (J5 ((H7 sig 0)::key::ps)))) (C1a (I7 (Dq (H7 sig 32))) (Mf (Ed key)) (I7 (J5 ((H7 sig 0)::key::ps)))) W).mono ?_;rintro e W2 ⟨rfl,b2⟩;go_wp2_with fail;exact Cz (hQ' _ _ b2 rfl nofun)
     case fH=>exact P8 rfl rfl (fun ρ W=>Rv W ρ _ _ _ _ _)
    case dP=>
    intro us iH gM hg dJ eZ;have cO:us 1=(A8 (I7 (Dq (H7 sig 32)))):=hg _ (O8 0 rfl);have aX:us 3=(H9 (Mf (Ed key)).row):=hg _ (O8 1 rfl);have cI:us 5=(A8 (I7 (J5 ((H7 sig 0)::key::ps)))):=hg _ (O8 2 rfl);have bS:us 6=(H9 (Mc (I7 (Dq (H7 sig 32))) (Mf (Ed key)) (I7 (J5 ((H7 sig 0)::key::ps)))).row):=hg _ (O8 3 rfl);have gN:us 7=(A8 (I9 (Mc (I7 (Dq (H7 sig 32))) (Mf (Ed key)) (I7 (J5 ((H7 sig 0)::key::ps)))))):=hg _ (O8 4 rfl);obtain⟨fV,fI,aV⟩:=hg _ (O8 5 rfl);have fI:us 8=.pointer (some ⟨fV,0,none⟩):=fI;have dQ:=Cc (eZ _ (O8 5 rfl) rfl) fI;have dR:=K9 bC gM;have eF:=X3 cN dQ.1;have eG:=X3 bT dQ.1;have eH:=X3 aN dQ.1;have eI:=X3 aO dQ.1;have dS:=X3 aF dQ.1;have fW:=Nat.le_trans fT (Nat.le_trans bC.size dQ.1);clear dQ;refine Pv ?_;rw[cO,aX,cI,bS,gN,fI];clear hg dJ eZ cO aX cI bS gN fI gM bC;have gO:=K9 bD dR;have gP:=Nat.le_trans fT dR.size;have cP:=bT.bl dR;have cQ:=aN.bl dR;have cR:=aO.bl dR;have bU:=aF.bl dR;clear dR bD fT cN bT aN aO aF;obtain⟨gQ,aL⟩:=F9 (D8 iH ⟨fV,0,none⟩ (c8 (I9 (Mc (I7 (Dq (H7 sig 32))) (Mf (Ed key)) (I7 (J5 ((H7 sig 0)::key::ps)))))))
    have bV:=P8' 32 aL aV (by simp) (O7 (Mc (I7 (Dq (H7 sig 32))) (Mf (Ed key)) (I7 (J5 ((H7 sig 0)::key::ps)))));have cS:=J3 aL cP (by omega);have cT:=J3 aL cQ (by omega);have cU:=J3 aL cR (by omega);have bX:=J3 aL bU (by omega);have gR:=Bi aL gO (by omega);have dT:=C8' 32 aV (by simp);have dU:(I9 (Mc (I7 (Dq (H7 sig 32))) (Mf (Ed key)) (I7 (J5 ((H7 sig 0)::key::ps))))).length=32:=(O7 (Mc (I7 (Dq (H7 sig 32))) (Mf (Ed key)) (I7 (J5 ((H7 sig 0)::key::ps)))));refine U7 9 fun Q' hQ'=>?_;dsimp only[F0];go_wp2_with fail;rw[←aL];refine hQ' _ _ ⟨bX,cT,cU⟩ ?_;clear hQ' dT dU;have gS:=Il aL gP;clear aL gO gP cP cQ cR bU aV;refine Ef ?_;go_wp2_with fail;have fK:=Fx gQ;refine Fa (fun W=>Bk W (fV) 23 (c8 (I9 (Mc (I7 (Dq (H7 sig 32))) (Mf (Ed key)) (I7 (J5 ((H7 sig 0)::key::ps))))))∧Bk W (w.heap.size+1) 61 (c8 sig)) ?_;refine Df (A:=?iI) [0,1,2,3,4,5] ⟨(bV.drew),(cS.drew)⟩ (fun W hW=>?fX) ?iJ;case fX=>have f0:=Bk.row8 (n:=32) (hW.1) ((O7 (Mc (I7 (Dq (H7 sig 32))) (Mf (Ed key)) (I7 (J5 ((H7 sig 0)::key::ps))))));have f3:=Bk.xyAt (hW.2) hg 0 (by decide);exact Ei
    obtain⟨iO,dV⟩:=F9 (gQ.drew);rw[←dV];rw[←dV]at fK;have iK:=K9 gR fK;have iP:=Nat.le_trans gS fK.size;clear dV fK gR gS cS cT cU bX bV;refine Ef ?_;go_wp2_with fail;go_ret;exact ⟨by rw[HV.out];rfl,iK⟩
  case true=>have HV:=Lib.hid (D4v (sig:=sig) (ps:=ps) hsm);clear hsm;go_wp2_with fail;go_ret;exact ⟨by rw[HV.out];rfl,fM⟩
theorem B2o (w:World):Calls Tryz.prog 81 #[.slice none 0 0] w fun e w'=>e=.returned (.slice none 0 0)∧w=w':=by
 have aA:∀(w:World) (a:Option Addr) (n c n' c':Nat),(binOp .eql 45 (.slice a n c) (.slice none n' c')).run Tryz.prog w=.ok (.bool a.isNone) w:=fun w a n c n' c'=>Lib.run_eql_slice_nil w _ _ a n c n' c' Tryz.underlying45;go_enter Tryz.func81,Tryz.ntmps81;go_wp2;go_ret;exact ⟨rfl,rfl⟩
theorem B1w (v:Value) (l:List UInt8) (w:World) (hv:By w 0 w.heap.size v l) (hne:0<l.length) (hn:l.length≤1099511627776) :
 Calls Tryz.prog 81 #[v] w fun e w'=>∃u,e=.returned u∧P9 w' w.heap.size u l∧Below w.heap.size w w':=by
 obtain⟨g,o,c,rfl,h1,h2,_,_,_⟩:=hv.row hne;have aA:=Lib.hid (hv.alloc (Nat.le_refl _) (.cells #[] 5));clear hv;have aD:∀(w:World) (a:Option Addr) (n c n' c':Nat),(binOp .eql 45 (.slice a n c) (.slice none n' c')).run Tryz.prog w=.ok (.bool a.isNone) w:=fun w a n c n' c'=>Lib.run_eql_slice_nil w _ _ a n c n' c' Tryz.underlying45;have ho:Hid (P9 (w.alloc (.cells #[] 5)) w.heap.size (.slice (some ⟨w.heap.size,0,none⟩) 0 0) []):=Lib.hid (World.ownsRow_made w #[] 0 (Nat.le_refl _) (Nat.zero_le _) (by simp));go_enter Tryz.func81,Tryz.ntmps81;go_wp2_with (at_builtin;refine Pu _ w.heap.size _ [] rfl _ _ rfl rfl ho.out _ rfl l 0 _ aA.out (by simp;omega) (by simp) ?_;intro A2 c2 w2 aE aF aB aC aG aH);go_ret;exact ⟨_,rfl,by simpa using aB,(Aw _ _).trans aC⟩
theorem B7e (v:UInt64) (m:Nat) (hm:m<8):(U0 v).take m++[(v >>> UInt64.ofNat (56-8*m)).toUInt8]=(U0 v).take (m+1):=by
 match m,hm with
 | 0,_=>rfl
 | 1,_=>rfl
 | 2,_=>rfl
 | 3,_=>rfl
 | 4,_=>rfl
 | 5,_=>rfl
 | 6,_=>rfl
 | 7,_=>
  show [(v >>> 56).toUInt8,(v >>> 48).toUInt8,(v >>> 40).toUInt8,(v >>> 32).toUInt8,(v >>> 24).toUInt8,(v >>> 16).toUInt8,(v >>> 8).toUInt8]++[(v >>> UInt64.ofNat 0).toUInt8]=U0 v;have:v >>> UInt64.ofNat 0=v:=by
   apply UInt64.toNat_inj.1;rw[UInt64.toNat_shiftRight];simp
  rw[this];rfl
@[simp] theorem Ys (v : UInt64) : (U0 v).length = 8 := rfl
def C7z (w:World) (bv:Value) (l:List UInt8):Prop:=(bv=.slice none 0 0∧l=[])∨(By w 0 w.heap.size bv l∧0<l.length∧l.length≤1099511627776)
theorem A9m (bv:Value) (l:List UInt8) (w:World) (h:C7z w bv l):Calls Tryz.prog 81 #[bv] w fun e w'=>∃u,e=.returned u∧P9 w' w.heap.size u l∧Below w.heap.size w w':=by
 rcases h with ⟨rfl,rfl⟩ | ⟨h1,h2,h3⟩
 ·refine (B2o w).mono ?_;rintro e w' ⟨rfl,rfl⟩;exact ⟨_,rfl,P9.nil _ _,Below.refl _ _⟩
 ·exact B1w bv l w h1 h2 h3
theorem Rg (bv:Value) (l:List UInt8) (v:UInt64) (w:World) (h:C7z w bv l) (hl:l.length≤1099511627776) :
 Calls Tryz.prog 54 #[bv,.int .u64 (J4 v)] w fun e w'=>∃u,e=.returned u∧P9 w' w.heap.size u (l++U0 v)∧Below w.heap.size w w':=by
 have H:=Lib.hid h;clear h;go_enter Tryz.func54,Tryz.ntmps54;go_wp2_with fail;refine (A9m bv l w H.out).mono ?_;rintro e w1 ⟨u,rfl,O1,b1⟩;have aC:P9 w1 w.heap.size u (l++(U0 v).take 0):=by simpa using O1
 have O1:=Lib.hid aC;clear aC;go_wp2_with fail;go_loopw [5,6] (fun s x wr=>∃m:Nat,m≤8∧x=.int .i64 (56-8*(m:Int))∧P9 wr w.heap.size s (l++(U0 v).take m)∧Below w.heap.size w wr) (fun _ x _=>(intOf x+8).toNat)
 case atStart=>exact ⟨0,by omega,rfl,O1.out,b1⟩
 case round=>
  clear O1 b1;obtain⟨m,hm,rfl,O,B⟩:=hrel;by_cases hlt:m<8
  ·obtain⟨s,hs⟩:=F9 (56-8*m);have es:56-8*(m:Int)=(s:Int):=by omega
   have aD:s<64:=by omega
   have hd:decide (0≤(s:Int))=true:=decide_eq_true (by omega);rw[es];have HS:Hid ((U0 v).take m++[(v >>> UInt64.ofNat s).toUInt8]=(U0 v).take (m+1)):=Lib.hid (by rw[hs];exact B7e v m hlt);have ES:=Lib.hid es;have aB:(l++(U0 v).take m).length≤2199023255552:=by simp;omega
   clear hs es;obtain⟨L,hL⟩:=F9 (l++(U0 v).take m);have HL:Hid (L++[(v >>> UInt64.ofNat s).toUInt8]=l++(U0 v).take (m+1)):=Lib.hid (by rw[hL,List.append_assoc,HS.out]);rw[←hL]at O aB;clear hL HS;have O':=Lib.hid O;clear O;go_wp2_with (at_builtin;refine Hh _ w.heap.size _ L rfl _ _ rfl rfl O'.out _ _ rfl rfl (by omega) B.size ?_;intro A2 c2 w7 aG aH aE aF;generalize (L++[(v >>> UInt64.ofNat s).toUInt8]).length=L7 at *);go_roundw;case rel=>exact ⟨m+1,by omega,by rw[←ES.out];all_goals (simp<;>omega),by rw[←HL.out];exact aE,B.trans aF⟩
   case measure=>have:=ES.out;simp[intOf]<;>omega
  ·obtain rfl:m=8:=by omega
   have aA:(U0 v).take 8=U0 v:=rfl;rw[aA]at O;have O':=Lib.hid O;clear O aA;go_wp2_with fail;go_ret;exact ⟨_,rfl,O'.out,B⟩
theorem P9.up {w:World} {base:Nat} {v:Value} {l:List UInt8} (h:P9 w base v l):By w 0 w.heap.size v l:=By.less h.by_ (Nat.zero_le _)
def C2a (l x:List UInt8):List UInt8:=l++U0 (UInt64.ofNat x.length)++x
theorem A8c (l x:List UInt8):(C2a l x).length=l.length+8+x.length:=by simp[C2a];omega
theorem B2v (bv xv:Value) (l x:List UInt8) (w:World) (h:C7z w bv l) (hx:By w 0 w.heap.size xv x) (hl:l.length≤1099511627) (hxl:x.length≤1099511627776) :
 Calls Tryz.prog 111 #[bv,xv] w fun e w'=>∃u,e=.returned u∧P9 w' w.heap.size u (C2a l x)∧Below w.heap.size w w':=by
 obtain⟨A,c,rfl,h2,h3,_⟩:=hx.open_;have hw:IntKind.u64.wrap (x.length:Int)=J4 (UInt64.ofNat x.length):=by
  rw[Gq];unfold J4;simp
 have H:=Lib.hid h;have HX:=Lib.hid hx;have HE:Hid (C2a l x=(l++U0 (UInt64.ofNat x.length))++x):=Lib.hid rfl;obtain⟨n,hn⟩:=F9 (x.length);rw[←hn]at hw HE h2 hxl HX ⊢;have HN:=Lib.hid hn;clear h hx hn;go_enter Tryz.func111,Tryz.ntmps111;go_wp2_with fail;refine (Rg bv l (UInt64.ofNat n) w H.out (by omega)).mono ?_;rintro e w1 ⟨u,rfl,O1,b1⟩;have aC:=Lib.hid O1;have aD:=Lib.hid (By.up HX.out b1);have aA:(l++U0 (UInt64.ofNat n)).length≤1099511628000:=by simp;omega
 obtain⟨L,hL⟩:=F9 (l++U0 (UInt64.ofNat n));rw[←hL]at HE aA;have O2:Hid (P9 w1 w.heap.size u L):=Lib.hid (by rw[hL];exact O1);clear O1 aC hL hw;go_wp2_with (at_builtin;refine Pu _ w.heap.size _ L rfl _ _ rfl rfl O2.out _ rfl x 0 _ aD.out (by rw[←HN.out];omega) b1.size ?_;intro A2 c2 w2 aF aG aB aE aH aI);go_ret;rw[List.length_append]at aB;exact ⟨_,rfl,by rw[HE.out];exact aB,b1.trans aE⟩
theorem B7u (v:Value) (ls:List (List UInt8)) (w:World) (hp:N8 w w.heap.size v ls) (hsz:ls.flatten.length≤17592186044416) :
 Calls Tryz.prog 70 #[v] w fun e w'=>∃u,e=.returned u∧P9 w' w.heap.size u ls.flatten∧Below w.heap.size w w':=by
 have H:=Lib.hid hp;clear hp;go_enter Tryz.func70,Tryz.ntmps70;go_wp2_with fail;refine (Uf v ls w H.out hsz).mono ?_;rintro e w1 ⟨u,rfl,O1,b1⟩;have O:=Lib.hid O1;clear O1;go_wp2_with fail;go_ret;exact ⟨_,rfl,O.out,b1⟩
def Jl:List UInt8:=[119,105,116,97,110]
def Ca (tag:UInt8) (body:List UInt8):List UInt8:=C2a (Jl++[tag]) body
theorem A6u (tag:UInt8) (body:List UInt8):(Ca tag body).length=14+body.length:=by unfold Ca;rw[A8c];simp[Jl]
theorem A6z:(Jl.map v8).toArray=#[.int .u8 119,.int .u8 105,.int .u8 116,.int .u8 97,.int .u8 110]:=by kernel_rfl
theorem A9v (tag:UInt8) (xv:Value) (x:List UInt8) (w:World) (hx:By w 0 w.heap.size xv x) (hxl:x.length≤1099511627776) :
 Calls Tryz.prog 69 #[.int .u8 (n8 tag),xv] w fun e w'=>∃u,e=.returned u∧P9 w' w.heap.size u (Ca tag x)∧Below w.heap.size w w':=by
 obtain⟨C,hC⟩:∃C:Array Value,C=#[.int .u8 119,.int .u8 105,.int .u8 116,.int .u8 97,.int .u8 110]:=⟨_,rfl⟩;have aG:C.toList=Jl.map v8:=by rw[hC,←A6z]
 have aA:=Go.Lib.run_convert_bytes_const (P:=Tryz.prog) w 45 5 C 5 5 Tryz.underlying45 Tryz.underlying5;have aO:(convert 45 45 (.slice (some ⟨w.heap.size,0,none⟩) 5 5)).run Tryz.prog (w.alloc (.cells #[.int .u8 119,.int .u8 105,.int .u8 116,.int .u8 97,.int .u8 110] 5))=.ok (.slice (some ⟨w.heap.size,0,none⟩) 5 5) (w.alloc (.cells #[.int .u8 119,.int .u8 105,.int .u8 116,.int .u8 97,.int .u8 110] 5 (5,6))):=by rw[hC]at aA;exact aA
 have aH:Below w.heap.size w ((w.alloc (.cells #[.int .u8 119,.int .u8 105,.int .u8 116,.int .u8 97,.int .u8 110] 5 (5,6))).alloc (.cells #[.int .u8 (n8 tag)] 5)):=(Aw _ _).alloc (by simp) _;have aB:∀j u,(Jl.map v8)[j]?=some u→((w.alloc (.cells #[.int .u8 119,.int .u8 105,.int .u8 116,.int .u8 97,.int .u8 110] 5 (5,6))).alloc (.cells #[.int .u8 (n8 tag)] 5)).cell? ⟨w.heap.size,j,none⟩=some u:=fun j u hj=>by
  refine Go.Lib.cell?_alloc_marked _ ?_;rw[cell_of_row _ w.heap.size j #[.int .u8 119,.int .u8 105,.int .u8 116,.int .u8 97,.int .u8 110] 5 (5,6) (heap_alloc_new w _),←hC,←Array.getElem?_toList,aG];exact hj
 have aC:∀j u,([v8 tag]:List Value)[j]?=some u→((w.alloc (.cells #[.int .u8 119,.int .u8 105,.int .u8 116,.int .u8 97,.int .u8 110] 5 (5,6))).alloc (.cells #[.int .u8 (n8 tag)] 5)).cell? ⟨w.heap.size+1,j,none⟩=some u:=fun j u hj=>by
  have h1:=cell_of_row _ (w.alloc (.cells #[.int .u8 119,.int .u8 105,.int .u8 116,.int .u8 97,.int .u8 110] 5 (5,6))).heap.size j #[.int .u8 (n8 tag)] 5 (0,0) (heap_alloc_new (w.alloc (.cells #[.int .u8 119,.int .u8 105,.int .u8 116,.int .u8 97,.int .u8 110] 5 (5,6))) (.cells #[.int .u8 (n8 tag)] 5));have e:(w.alloc (.cells #[.int .u8 119,.int .u8 105,.int .u8 116,.int .u8 97,.int .u8 110] 5 (5,6))).heap.size=w.heap.size+1:=by simp
  rw[e]at h1;rw[h1];simpa [v8] using hj
 obtain⟨i0,aI,aJ,aK,aL⟩:=info_parts A4s;have K1:Hid (some (⟨w.heap.size,0,none⟩:Addr)=none→(5:Nat)=0∧(5:Nat)=0):=Lib.hid (fun h=>by cases h);have K2:Hid ((Jl.map v8).length=5*1):=Lib.hid (by decide);have K3:Hid (∀b:Addr,some (⟨w.heap.size,0,none⟩:Addr)=some b→∀j u,(Jl.map v8)[j]?=some u→((w.alloc (.cells #[.int .u8 119,.int .u8 105,.int .u8 116,.int .u8 97,.int .u8 110] 5 (5,6))).alloc (.cells #[.int .u8 (n8 tag)] 5)).cell? (b.add j)=some u):=Lib.hid (fun b hb j u hj=>by injection hb with hb;subst hb;rw[Am,Nat.zero_add];exact aB j u hj);have K5:Hid (∀j u,([v8 tag]:List Value)[j]?=some u→((w.alloc (.cells #[.int .u8 119,.int .u8 105,.int .u8 116,.int .u8 97,.int .u8 110] 5 (5,6))).alloc (.cells #[.int .u8 (n8 tag)] 5)).cell? ((⟨w.heap.size+1,0,none⟩:Addr).add j)=some u):=Lib.hid (fun j u hj=>by rw[Am,Nat.zero_add];exact aC j u hj);have K6:Hid (∀u∈([v8 tag]:List Value),u.oneCell'=true):=Lib.hid (by intro u hu;simp at hu;subst hu;rfl);have HX:=Lib.hid hx;have HI:=Lib.hid aI;have aP:=Lib.hid aJ;have aQ:=Lib.hid aK;have aR:=Lib.hid aL;have HB:=Lib.hid aH;clear hx aI aJ aK aL aB aC hC aG aA aH;go_enter Tryz.func69,Tryz.ntmps69
 go_wp2_with (at_builtin;refine wpList_append_grows _ rfl _ _ 45 rfl 5 i0 _ 1 1 Tryz.underlying45 HI.out aP.out aQ.out aR.out rfl (by decide) (some ⟨w.heap.size,0,none⟩) 5 5 (Jl.map v8) rfl K1.out K2.out K3.out ⟨w.heap.size+1,0,none⟩ 1 1 [v8 tag] rfl rfl K5.out K6.out (by decide) (by decide) (by decide) ?_;intro v' w2 aD aM);have aF:P9 w2 w.heap.size v' (Jl++[tag]):=by
  refine P9.less ?_ HB.out.size;exact aD
 have aE:Below w.heap.size w w2:=HB.out.trans ((Below.refl _ _).grown aM HB.out.size (fun k hk=>by cases hk));obtain⟨A2,c2,rfl,_,_⟩:=aF.form;have aN:Hid (Jl.length=5):=Lib.hid rfl;have HF:Hid (C7z w2 (.slice A2 (Jl++[tag]).length c2) (Jl++[tag])):=Lib.hid (.inr ⟨aF.up,by simp,by simp[aN.out]⟩);have aS:=Lib.hid (By.up HX.out aE);clear aF aD aM aO;go_wp2_with fail;refine (B2v _ _ (Jl++[tag]) x w2 HF.out aS.out (by simp[aN.out]) hxl).mono ?_;rintro e w3 ⟨u,rfl,O3,b3⟩;have aT:=Lib.hid O3;clear O3;go_wp2_with fail;go_ret;exact ⟨_,rfl,P9.less aT.out aE.size,aE.trans (b3.mono aE.size)⟩
theorem By.formE {w:World} {B:Nat} {v:Value} {l:List UInt8} (h:By w 0 B v l):∃A n c,v=.slice A n c:=by
 obtain⟨A,c,rfl,_⟩:=h.open_;exact ⟨_,_,_,rfl⟩
theorem D2d {tag:UInt8} {body:List UInt8} (h:body.length≤1000000):[Ca tag body].flatten.length≤1000000000:=by simp[A6u];omega
noncomputable def Je (seed:List UInt8) (tag:UInt8) (body:List UInt8):List UInt8:=Rp seed [Ca tag body]
noncomputable def Hw (key:List UInt8) (tag:UInt8) (body sig:List UInt8):Bool:=Ez key sig [Ca tag body]
@[simp, go_sem] theorem Iz (seed : List UInt8) (tag : UInt8) (body : List UInt8) : (Je seed tag body).length = 64 := Kq _ _
theorem C3f (seed:List UInt8) (tag:UInt8) (bv:Value) (body:List UInt8) (hs:seed.length=32) (w:World) (hb:By w 0 w.heap.size bv body) (hbl:body.length≤1000000):Calls Tryz.prog 43 #[A8 seed,.int .u8 (n8 tag),bv] w fun e w'=>e=.returned (A8 (Je seed tag body))∧Below w.heap.size w w':=by
 have HB:=Lib.hid hb;clear hb;obtain⟨W0,aN⟩:=F9 (((w.alloc (Obj.cells (c8 seed).toArray 23)).alloc (Obj.cells (c8 (z8 64)).toArray 61)));have hL:W0=M9 w [(23,(c8 seed)),(61,(c8 (z8 64)))]:=aN;have B0:=Ki hL;have aA:=Ko hL rfl;have aD:=Ig 1 hL rfl;clear hL;go_enter Tryz.func43,Tryz.ntmps43;go_wp2_with fail;rw[←aN];clear aN;have S1:=Fx W0;refine Fa (fun W=>Bk W (w.heap.size) 23 (c8 seed)) ?_;refine Df (A:=?bD) [0,1,2] (aA.drew) (fun W hW=>?bB) ?bE;case bB=>have f0:=Bk.row8 (n:=32) (hW) (hs);exact Ei
 refine J8 [zb 3 10 (Ca tag body),zs 4 11 1 [(Ca tag body)],zv 5 12 (A8 (Rp seed [(Ca tag body)]))] (by kernel_rfl) (fun W hW=>(aA.drew.bl hW)) ?aE ?aF ?aG;case aE=>exact Ln
 case aF=>
  refine (P5 ⟨?aO,(P5 ⟨?aP,(P5 ⟨?aQ,Kh⟩)⟩)⟩);case aO=>
   intro o ho us W hW hp Q' hQ';obtain rfl:=Option.some.inj ho;clear hp ho;rw[C7]at hQ' ⊢;dsimp only[F0,H8,List.foldl,zv,za,zs,zp,zb]at hQ' ⊢;simp only[Ch];have bW:=E3 B0 (E3 S1 hW S1.size) B0.size;have aX:=Lib.hid (HB.out.up bW);clear bW;go_wp2_with fail;refine (A9v tag _ body W aX.out (by omega)).mono ?_;rintro e W2 ⟨v2,rfl,aR,b2⟩;have aR:=Lib.hid aR;go_wp2_with fail;exact Cz (hQ' _ _ b2 aR.out.up nofun)
  case aP=>intro o ho us W hW hp Q' hQ';obtain rfl:=Option.some.inj ho;have aB:By W 0 W.heap.size (us 3) (Ca tag body):=hp 0 _ rfl (by kernel_rfl);obtain⟨A3,n3,c3,aS⟩:=aB.formE;rw[aS]at aB;have aB:=Lib.hid aB;clear hp ho;rw[C7]at hQ' ⊢;dsimp only[F0,H8,List.foldl,zv,za,zs,zp,zb]at hQ' ⊢;simp only[Ch];rw[aS]at hQ' ⊢;clear aS;go_wp2_with fail;exact Cz (hQ' _ _ (Aw _ _) ⟨_,rfl,(N8.one W _ _ (Ca tag body) aB.out).more (by simp)⟩ nofun)
  case aQ=>
   intro o ho us W hW hp Q' hQ';obtain rfl:=Option.some.inj ho;have aB:By W 0 W.heap.size (us 3) (Ca tag body):=hp 0 _ rfl (by kernel_rfl);have aB:=Lib.hid aB;obtain⟨aY,aH,aI⟩:=hp 1 _ rfl (by kernel_rfl);have aH:us 4=.slice (some ⟨aY,0,none⟩) 1 1:=aH;have aI:N8 W W.heap.size (.slice (some ⟨aY,0,none⟩) 1 1) [(Ca tag body)]:=by rw[←aH];exact aI
   have aI:=Lib.hid aI;clear hp ho;rw[C7]at hQ' ⊢;dsimp only[F0,H8,List.foldl,zv,za,zs,zp,zb]at hQ' ⊢;simp only[Ch];rw[aH]at hQ' ⊢;clear aH;have bW:=E3 B0 (E3 S1 hW S1.size) B0.size;have aX:=Lib.hid (HB.out.up bW);clear bW;go_wp2_with fail;refine (C1r seed _ [(Ca tag body)] hs W aI.out (by simp) (by simp) (D2d hbl)).mono ?_;rintro e W2 ⟨rfl,b2⟩;go_wp2_with fail;exact Cz (hQ' _ _ b2 rfl nofun)
 case aG=>
 intro us W2 b3 hg aT bC;have aZ:By W2 0 W2.heap.size (us 3) (Ca tag body):=hg _ (O8 0 rfl);have aZ:=Lib.hid aZ;have bA:us 5=(A8 (Rp seed [(Ca tag body)])):=hg _ (O8 2 rfl);have b4:=K9 S1 b3;refine RG' ?_;rw[bA];clear hg aT bC bA b3 S1;have B2:=K9 B0 b4;have aJ:=aA.bl b4;have aC:=aD.bl b4;clear b4 B0 aA aD;obtain⟨W5,aK⟩:=F9 (D8 W2 ⟨w.heap.size+1,0,none⟩ (c8 (Rp seed [(Ca tag body)])));have aU:=P8' 64 aK aC (by simp) (Kq seed [(Ca tag body)]);have aV:=J3 aK aJ (by omega);have B5:=Bi aK B2 (by omega);have aL:=C8' 64 aC (by simp);have aM:(Rp seed [(Ca tag body)]).length=64:=(Kq seed [(Ca tag body)]);refine U7 6 fun Q' hQ'=>?_;dsimp only[F0];go_wp2_with fail;rw[←aK];refine hQ' _ _ aV ?_;clear hQ' aL aM;clear aK B2 aJ aC;refine Ef ?_;go_wp2_with fail;have aW:(Rp seed [(Ca tag body)]).length=64:=(Kq seed [(Ca tag body)]);refine bodyPost_ret (E5 rfl _ _ _ _ _ _ rfl aU Tryz.underlying61 rfl (by simp[Rl,aW])) rfl ⟨rfl,B5⟩
theorem B8q (key:List UInt8) (tag:UInt8) (bv:Value) (body:List UInt8) (sig:List UInt8) (hk:key.length=32) (hg:sig.length=64) (w:World) (hb:By w 0 w.heap.size bv body) (hbl:body.length≤1000000):Calls Tryz.prog 50 #[A8 key,.int .u8 (n8 tag),bv,A8 sig] w fun e w'=>e=.returned (.bool (Hw key tag body sig))∧Below w.heap.size w w':=by
 have HB:=Lib.hid hb;clear hb;obtain⟨W0,aK⟩:=F9 (((w.alloc (Obj.cells (c8 key).toArray 23)).alloc (Obj.cells (c8 sig).toArray 61)));have hL:W0=M9 w [(23,(c8 key)),(61,(c8 sig))]:=aK;have B0:=Ki hL;have aD:=Ko hL rfl;have aE:=Ig 1 hL rfl;clear hL;go_enter Tryz.func50,Tryz.ntmps50;go_wp2_with fail;rw[←aK];clear aK;have S1:=Fx W0;refine Fa (fun W=>Bk W (w.heap.size) 23 (c8 key)∧Bk W (w.heap.size+1) 61 (c8 sig)) ?_;refine Df (A:=?aX) [0,1,2,3] ⟨(aD.drew),(aE.drew)⟩ (fun W hW=>?aV) ?aY;case aV=>have f0:=Bk.row8 (n:=32) (hW.1) (hk);have f1:=Bk.row8 (n:=64) (hW.2) (hg);exact Ei
 refine J8 [zb 4 13 (Ca tag body),zs 5 14 1 [(Ca tag body)],zv 6 15 (.bool (Ez key sig [(Ca tag body)])),zv 7 8 (.bool (Ez key sig [(Ca tag body)]))] (by kernel_rfl) (fun W hW=>⟨(aD.drew.bl hW),(aE.drew.bl hW)⟩) ?aF ?aG ?aH;case aF=>exact Ln
 case aG=>
  refine (P5 ⟨?aL,(P5 ⟨?aM,(P5 ⟨?aN,(P5 ⟨?aO,Kh⟩)⟩)⟩)⟩);case aL=>
   intro o ho us W hW hp Q' hQ';obtain rfl:=Option.some.inj ho;clear hp ho;rw[C7]at hQ' ⊢;dsimp only[F0,H8,List.foldl,zv,za,zs,zp,zb]at hQ' ⊢;simp only[Ch];have bW:=E3 B0 (E3 S1 hW S1.size) B0.size;have aS:=Lib.hid (HB.out.up bW);clear bW;go_wp2_with fail;refine (A9v tag _ body W aS.out (by omega)).mono ?_;rintro e W2 ⟨v2,rfl,aP,b2⟩;have aP:=Lib.hid aP;go_wp2_with fail;exact Cz (hQ' _ _ b2 aP.out.up nofun)
  case aM=>intro o ho us W hW hp Q' hQ';obtain rfl:=Option.some.inj ho;have aA:By W 0 W.heap.size (us 4) (Ca tag body):=hp 0 _ rfl (by kernel_rfl);obtain⟨A4,n4,c4,aQ⟩:=aA.formE;rw[aQ]at aA;have aA:=Lib.hid aA;clear hp ho;rw[C7]at hQ' ⊢;dsimp only[F0,H8,List.foldl,zv,za,zs,zp,zb]at hQ' ⊢;simp only[Ch];rw[aQ]at hQ' ⊢;clear aQ;go_wp2_with fail;exact Cz (hQ' _ _ (Aw _ _) ⟨_,rfl,(N8.one W _ _ (Ca tag body) aA.out).more (by simp)⟩ nofun)
  case aN=>
   intro o ho us W hW hp Q' hQ';obtain rfl:=Option.some.inj ho;have aA:By W 0 W.heap.size (us 4) (Ca tag body):=hp 0 _ rfl (by kernel_rfl);have aA:=Lib.hid aA;obtain⟨aI,aB,aC⟩:=hp 1 _ rfl (by kernel_rfl);have aB:us 5=.slice (some ⟨aI,0,none⟩) 1 1:=aB;have aC:N8 W W.heap.size (.slice (some ⟨aI,0,none⟩) 1 1) [(Ca tag body)]:=by rw[←aB];exact aC
   have aC:=Lib.hid aC;clear hp ho;rw[C7]at hQ' ⊢;dsimp only[F0,H8,List.foldl,zv,za,zs,zp,zb]at hQ' ⊢;simp only[Ch];rw[aB]at hQ' ⊢;clear aB;have bW:=E3 B0 (E3 S1 hW S1.size) B0.size;have aS:=Lib.hid (HB.out.up bW);clear bW;go_wp2_with fail;refine (B4r key sig _ [(Ca tag body)] hk hg W aC.out (by simp) (by simp) (D2d hbl)).mono ?_;rintro e W2 ⟨rfl,b2⟩;go_wp2_with fail;exact Cz (hQ' _ _ b2 rfl nofun)
  case aO=>
   intro o ho us W hW hp Q' hQ';obtain rfl:=Option.some.inj ho;have aA:By W 0 W.heap.size (us 4) (Ca tag body):=hp 0 _ rfl (by kernel_rfl);have aA:=Lib.hid aA;obtain⟨aI,aB,aC⟩:=hp 1 _ rfl (by kernel_rfl);have aB:us 5=.slice (some ⟨aI,0,none⟩) 1 1:=aB;have aC:N8 W W.heap.size (.slice (some ⟨aI,0,none⟩) 1 1) [(Ca tag body)]:=by rw[←aB];exact aC
   have aC:=Lib.hid aC;have aJ:us 6=(.bool (Ez key sig [(Ca tag body)])):=hp 2 _ rfl (by kernel_rfl);clear hp ho;rw[C7]at hQ' ⊢;dsimp only[F0,H8,List.foldl,zv,za,zs,zp,zb]at hQ' ⊢;simp only[Ch];rw[aB,aJ]at hQ' ⊢;clear aB aJ;go_wp2_with fail;exact Cz (hQ' _ _ (Below.refl _ _) rfl nofun)
 case aH=>
 intro us W2 b3 hg aR aW;have aT:By W2 0 W2.heap.size (us 4) (Ca tag body):=hg _ (O8 0 rfl);have aT:=Lib.hid aT;have aJ:us 6=(.bool (Ez key sig [(Ca tag body)])):=hg _ (O8 2 rfl);have aU:us 7=(.bool (Ez key sig [(Ca tag body)])):=hg _ (O8 3 rfl);have b4:=K9 S1 b3;refine RG' ?_;rw[aJ,aU];clear hg aR aW aJ aU b3 S1;have B2:=K9 B0 b4;clear b4 B0 aD aE;refine Ef ?_;go_wp2_with fail;go_ret;exact ⟨rfl,B2⟩
def Im (v:Int):UInt64:=UInt64.ofNat (v % 18446744073709551616).toNat
theorem A5d (v:Int):IntKind.u64.wrap v=J4 (Im v):=by
 unfold J4 Im;rw[UInt64.toNat_ofNat'];simp only[IntKind.wrap,IntKind.bits,IntKind.signed,Bool.false_and,Bool.false_eq_true,if_false];omega
def Aq (ver:Int) (key:List UInt8):List UInt8:=[U0 (Im ver),key].flatten
theorem Vv (ver:Int) {key:List UInt8} (h:key.length=32):(Aq ver key).length=40:=by simp[Aq,h]
theorem A7o (ver:Int) (key:List UInt8) (hk:key.length=32) (w:World):Calls Tryz.prog 44 #[.int .i64 ver,A8 key] w fun e w'=>∃u,e=.returned u∧By w' 0 w'.heap.size u (Aq ver key)∧Below w.heap.size w w':=by
 have aU:=A5d ver;obtain⟨W0,aJ⟩:=F9 ((w.alloc (Obj.cells (c8 key).toArray 23)));have hL:W0=M9 w [(23,(c8 key))]:=aJ;have B0:=Ki hL;have aD:=Ko hL rfl;clear hL;go_enter Tryz.func44,Tryz.ntmps44;go_wp2_with fail;rw[←aJ];clear aJ;have S1:=Fx W0;refine Fa (fun W=>True) ?_;refine Df (A:=?aX) [0,1,3] trivial (fun W hW=>?aV) ?aY;case aV=>exact Ei
 refine J8 [zb 2 7 (U0 (Im ver)),zs 4 9 2 [(U0 (Im ver)),key],zb 5 10 (List.flatten [(U0 (Im ver)),key]),zb 6 4 (List.flatten [(U0 (Im ver)),key])] (by kernel_rfl) (fun W hW=>trivial) ?aE ?aF ?aG;case aE=>exact Ln
 case aF=>
  refine (P5 ⟨?aK,(P5 ⟨?aL,(P5 ⟨?aM,(P5 ⟨?aN,Kh⟩)⟩)⟩)⟩);case aK=>
   intro o ho us W hW hp Q' hQ';obtain rfl:=Option.some.inj ho;clear hp ho;rw[C7]at hQ' ⊢;dsimp only[F0,H8,List.foldl,zv,za,zs,zp,zb]at hQ' ⊢;simp only[Ch];go_wp2_with fail;refine (Rg (.slice none 0 0) [] (Im ver) W (.inl ⟨rfl,rfl⟩) (by simp)).mono ?_;rintro e W2 ⟨v2,rfl,aA,b2⟩;have aA:=Lib.hid aA;go_wp2_with fail;exact Cz (hQ' _ _ b2 aA.out.up nofun)
  case aL=>intro o ho us W hW hp Q' hQ';obtain rfl:=Option.some.inj ho;have aA:By W 0 W.heap.size (us 2) (U0 (Im ver)):=hp 0 _ rfl (by kernel_rfl);obtain⟨A2,n2,c2,aO⟩:=aA.formE;rw[aO]at aA;have aA:=Lib.hid aA;clear hp ho;rw[C7]at hQ' ⊢;dsimp only[F0,H8,List.foldl,zv,za,zs,zp,zb]at hQ' ⊢;simp only[Ch];rw[aO]at hQ' ⊢;clear aO;have aH:=aD.drew.bl hW;go_wp2_with fail;exact Cz (hQ' _ _ (Aw _ _) ⟨_,rfl,(N8.two W _ _ _ (U0 (Im ver)) key aA.out (Bk.byAll (aH) hk (by decide))).more (by simp)⟩ nofun)
  case aM=>
   intro o ho us W hW hp Q' hQ';obtain rfl:=Option.some.inj ho;have aA:By W 0 W.heap.size (us 2) (U0 (Im ver)):=hp 0 _ rfl (by kernel_rfl);have aA:=Lib.hid aA;obtain⟨aI,aB,aC⟩:=hp 1 _ rfl (by kernel_rfl);have aB:us 4=.slice (some ⟨aI,0,none⟩) 2 2:=aB;have aC:N8 W W.heap.size (.slice (some ⟨aI,0,none⟩) 2 2) [(U0 (Im ver)),key]:=by rw[←aB];exact aC
   have aC:=Lib.hid aC;clear hp ho;rw[C7]at hQ' ⊢;dsimp only[F0,H8,List.foldl,zv,za,zs,zp,zb]at hQ' ⊢;simp only[Ch];rw[aB]at hQ' ⊢;clear aB;go_wp2_with fail;refine (B7u _ [(U0 (Im ver)),key] W aC.out (by simp;omega)).mono ?_;rintro e W2 ⟨v2,rfl,aA,b2⟩;have aA:=Lib.hid aA;go_wp2_with fail;exact Cz (hQ' _ _ b2 aA.out.up nofun)
  case aN=>
   intro o ho us W hW hp Q' hQ';obtain rfl:=Option.some.inj ho;have aA:By W 0 W.heap.size (us 2) (U0 (Im ver)):=hp 0 _ rfl (by kernel_rfl);have aA:=Lib.hid aA;obtain⟨aI,aB,aC⟩:=hp 1 _ rfl (by kernel_rfl);have aB:us 4=.slice (some ⟨aI,0,none⟩) 2 2:=aB;have aC:N8 W W.heap.size (.slice (some ⟨aI,0,none⟩) 2 2) [(U0 (Im ver)),key]:=by rw[←aB];exact aC
   have aC:=Lib.hid aC;have aP:By W 0 W.heap.size (us 5) (List.flatten [(U0 (Im ver)),key]):=hp 2 _ rfl (by kernel_rfl);have aP:=Lib.hid aP;clear hp ho;rw[C7]at hQ' ⊢;dsimp only[F0,H8,List.foldl,zv,za,zs,zp,zb]at hQ' ⊢;simp only[Ch];rw[aB]at hQ' ⊢;clear aB;go_wp2_with fail;exact Cz (hQ' _ _ (Below.refl _ _) aP.out nofun)
 case aG=>
 intro us W2 b3 hg aQ aW;have aS:By W2 0 W2.heap.size (us 2) (U0 (Im ver)):=hg _ (O8 0 rfl);have aS:=Lib.hid aS;have aT:By W2 0 W2.heap.size (us 5) (List.flatten [(U0 (Im ver)),key]):=hg _ (O8 2 rfl);have aT:=Lib.hid aT;have aR:By W2 0 W2.heap.size (us 6) (List.flatten [(U0 (Im ver)),key]):=hg _ (O8 3 rfl);have aR:=Lib.hid aR;have b4:=K9 S1 b3;refine RG' ?_;clear hg aQ aW b3 S1;have B2:=K9 B0 b4;clear b4 B0 aD;refine Ef ?_;go_wp2_with fail;go_ret;exact ⟨_,rfl,aR.out,B2⟩
section
structure UV where
 id:List UInt8
 ver:Int
 key:List UInt8
 sig:List UInt8
structure UV.Ok (u : UV) : Prop where
 id:u.id.length=32
 key:u.key.length=32
 sig:u.sig.length=64
def Cl (u:UV):List Value:=c8 u.id++(.int .i64 u.ver::(c8 u.key++c8 u.sig))
def UV.length (u:UV):Nat:=(Cl u).length
def Uk (u:UV):Value:=.agg (Cl u).toArray
def Py (_:Nat):UV:=⟨z8 32,0,z8 32,z8 64⟩
theorem UV.Ok.len {u:UV} (h:u.Ok):u.length=129:=by unfold UV.length Cl;simp[h.id,h.key,h.sig]
theorem Kk (n:Nat):(Py n).Ok:=⟨by simp[Py],by simp[Py],by simp[Py]⟩
theorem Fr (u:UV):(Cl u).length=u.length:=rfl
theorem Pa (u:UV):∀x∈Cl u,x.oneCell'=true:=by
 intro x hx;simp only[Cl,List.mem_append,List.mem_cons]at hx;rcases hx with hx | rfl | hx | hx
 ·obtain⟨y,_,rfl⟩:=List.mem_map.1 hx;rfl
 ·rfl
 ·obtain⟨y,_,rfl⟩:=List.mem_map.1 hx;rfl
 ·obtain⟨y,_,rfl⟩:=List.mem_map.1 hx;rfl
theorem A7f:(Tryz.prog.info? 63).map (·.size)=some 129:=by kernel_rfl
theorem B5a:((Tryz.prog.info? 63).bind (·.zero))=some (Uk (Py 129)):=by kernel_rfl
theorem Wn:Tryz.prog.underlying 63=some (.struct (X6 Tryz.prog 63)):=by kernel_rfl
@[go_sem] theorem E9a (u : UV) : Value.agg (Cl u).toArray = Uk u := rfl
@[go_sem] theorem D8w (t : TypeId) (w : World) (raw : Result Next) (u : UV) : Vi t w raw (Uk u) = .ok (.value (.pointer (some ⟨w.heap.size, 0, none⟩))) (w.alloc (.cells (Cl u).toArray t)) := rfl
@[go_sem] theorem D4a (n : Nat) (w : World) (raw : Result Next) (a : Addr) (u : UV) : Cu n w raw (.pointer (some a)) (Uk u) =
 if u.length=n∧T5 w a n=true then .ok .skip (D8 w a (Cl u)) else raw:=by
 have h1:((Cl u).toArray.all (·.oneCell'))=true:=by rw[Array.all_eq_true'];intro x hx;exact Pa u x (by simpa using hx)
 unfold Uk;rw[Tj,h1];simp only[List.size_toArray,true_and,Fr]
section
variable (w : World) (ρ : Operand → Value) (dst : Option Tmp) (ty : TypeId) (pos : String) (after : Array Edge) (guard : Option (Nat × Bool))
@[go_sem ↓ high] theorem E6c:RL' 63 129:=LL' Wn A7f
@[go_sem ↓ high] theorem E1b:RS' 63 129:=SS' A7f
@[go_sem ↓ high] theorem E4p:RA' 63 (Cl (Py 129)).toArray:=fun w ρ dst ty pos after guard=>U6 w ρ dst ty pos after guard 63 (Uk (Py 129)) B5a
@[go_sem ↓ high] theorem E8g:RB' 63:=BX' _
end
theorem B6q (w:World):(Gj (X6 Tryz.prog 63)).run Tryz.prog w=.ok #[(0,32),(32,1),(33,32),(65,64)] w:=by kernel_rfl
noncomputable def D0a (w:World) (raw:Result Next) (a b c d:Value):Result Next:=match Ec a,b,Ec c,Ec d with
 | some i,.int .i64 v,some k,some s=>if i.length=32∧k.length=32∧s.length=64 then .ok (.value (Uk ⟨i,v,k,s⟩)) w else raw
 | _,_,_,_=>raw
@[go_sem] theorem E5p (w : World) (raw : Result Next) (i k s : List UInt8) (v : Int) (hi : i.length = 32) (hk : k.length = 32) (hs : s.length = 64) : D0a w raw (A8 i) (.int .i64 v) (A8 k) (A8 s) = .ok (.value (Uk ⟨i, v, k, s⟩)) w := by
 unfold D0a;simp only[Ea];simp[hi,hk,hs]
theorem D5k (i k s:List UInt8) (v:Int) (hi:i.length=32) (hk:k.length=32) (hs:s.length=64) (w:World):(Instr.build 63 #[(0,A8 i),(1,.int .i64 v),(2,A8 k),(3,A8 s)]).run Tryz.prog w=.ok (Uk ⟨i,v,k,s⟩) w:=by
 have aA:(Uk (Py 129)).cells.toList=c8 (z8 32)++(.int .i64 0::(c8 (z8 32)++c8 (z8 64))):=rfl;have h1:=Y6 Wn B5a w (B6q w) #[(0,A8 i),(1,.int .i64 v),(2,A8 k),(3,A8 s)] [(0,c8 i),(32,[.int .i64 v]),(33,c8 k),(65,c8 s)] (by
  rw[aA];exact ⟨by simp[hi],rfl,by simp[hi],by simp,rfl,by simp,by simp[hk],rfl,by simp[hk],by simp[hs],rfl,by simp[hs],trivial⟩)
 refine h1.trans (congrArg (fun (cs:List Value)=>Result.ok (Value.agg cs.toArray) w) ?_);rw[aA];simp[Ib,Bp,hi,hk,hs,List.take_append,List.drop_append,List.drop_eq_nil_of_le,List.take_of_length_le,Cl,c8]
@[go_sem ↓ high] theorem E2g (w : World) (ρ : Operand → Value) (dst : Option Tmp) (ty : TypeId) (pos : String) (after : Array Edge) (guard : Option (Nat × Bool)) (x y z t : Operand) :
 (execOp ρ { dst,op:=.build 63 #[(0,x),(1,y),(2,z),(3,t)],type:=ty,pos,after,guard }).run Tryz.prog w=D0a w (Q0 Tryz.prog ρ { dst,op:=.build 63 #[(0,x),(1,y),(2,z),(3,t)],type:=ty,pos,after,guard } w) (ρ x) (ρ y) (ρ z) (ρ t):=by
 generalize h0:ρ x=a;generalize h1:ρ y=b;generalize h2:ρ z=c;generalize h3:ρ t=d;unfold D0a;split
 ·rename_i i v k s g0 g1 g2
  replace g0:=Y9 g0;replace g1:=Y9 g1;replace g2:=Y9 g2;split
  ·rename_i h
   refine T6 w ρ dst ty pos after guard _ _ _ ?_;simp only[List.map_toArray,List.map_cons,List.map_nil,h0,h1,h2,h3,g0,g1,g2];exact D5k i k s v h.1 h.2.1 h.2.2 w
  ·rfl
 ·rfl
section
variable {w : World} {g : Nat} {t : TypeId} {u m : UV} {n : Nat}
theorem Bk.rowvc (K:Bk w g t (Cl u)) (hu:u.length=n):J1 w ⟨g,0,none⟩ n=some (Cl u):=by have:=K.rows;rwa [Fr,hu]at this
theorem Bk.canvc (K:Bk w g t (Cl u)) (hu:u.length=n):T5 w ⟨g,0,none⟩ n=true:=K.can (by rw[Fr,hu];omega)
theorem Bk.putvc (K:Bk w g t (Cl u)) (hu:u.length=n) (hm:m.length=n):Bk (D8 w ⟨g,0,none⟩ (Cl m)) g t (Cl m):=K.puts (by rw[Fr,Fr,hu,hm])
theorem UV.loadid (K:Bk w g t (Cl u)) (h:u.Ok):J1 w ⟨g,0,none⟩ 32=some (c8 u.id):=by
 rw[K.rowMid 0 32 (by rw[Fr,h.len];decide)];simp[Cl,h.id]
theorem UV.loadver (K:Bk w g t (Cl u)) (h:u.Ok):w.cell? ⟨g,32,none⟩=some (.int .i64 u.ver):=by
 refine K.at_ ?_;simp[Cl,h.id]
theorem UV.loadkey (K:Bk w g t (Cl u)) (h:u.Ok):J1 w ⟨g,33,none⟩ 32=some (c8 u.key):=by
 rw[K.rowMid 33 32 (by rw[Fr,h.len];decide)];simp[Cl,h.id,h.key,List.drop_append,List.drop_eq_nil_of_le]
theorem UV.loadsig (K:Bk w g t (Cl u)) (h:u.Ok):J1 w ⟨g,65,none⟩ 64=some (c8 u.sig):=by
 rw[K.rowMid 65 64 (by rw[Fr,h.len];decide)];simp[Cl,h.id,h.key,h.sig,List.drop_append,List.drop_eq_nil_of_le,List.take_of_length_le]
end
end
end Go.Proofs.YtlegpkdighoflaaGreat
