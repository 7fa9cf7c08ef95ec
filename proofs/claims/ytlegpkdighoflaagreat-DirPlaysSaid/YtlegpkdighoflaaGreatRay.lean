/- A part of the proof of DirPlays. -/
import Derived.Lib.SlBytesConst
import Derived.Test.YtlegpkdighoflaaGreatRax
set_option linter.unusedVariables false
set_option linter.unusedSimpArgs false
set_option maxRecDepth 100000
set_option maxHeartbeats 40000000
namespace Go.Proofs.YtlegpkdighoflaaGreat
open Go Go.RowKit Sh
noncomputable def vfK (key sig:List UInt8) (ps:List (List UInt8)):List UInt64:=M1 (I7 sig 0::key::ps)
noncomputable def vfH (key sig:List UInt8) (ps:List (List UInt8)):List UInt8:=J8 (Nn (J7 (Fh (I7 sig 32))) (Nm (Fr key)) (J7 (vfK key sig ps)))
noncomputable def Gf (key sig:List UInt8) (ps:List (List UInt8)):Bool:=Kd key&&(!Tg (Fr key)&&(Tp (I7 sig 32)&&vfH key sig ps==I7 sig 0))
theorem D0u {key:List UInt8} (h:Kd key=false):A1d key=50:=(A1h h).2
theorem C6z {key:List UInt8} (h:Kd key=true):A1d key=0:=if_pos h
theorem D8b {key sig:List UInt8} {ps:List (List UInt8)} (h:Kd key=false):Gf key sig ps=false:=by unfold Gf;rw[h,Bool.false_and]
theorem D8m {key sig:List UInt8} {ps:List (List UInt8)} (h:Tg (Fr key)=true):Gf key sig ps=false:=by unfold Gf;rw[h];simp
theorem D5y {key sig:List UInt8} {ps:List (List UInt8)} (h:Tp (I7 sig 32)=false):Gf key sig ps=false:=by unfold Gf;rw[h];simp
theorem D8u {key sig:List UInt8} {ps:List (List UInt8)} (h1:Kd key=true) (h2:Tg (Fr key)=false) (h3:Tp (I7 sig 32)=true):Gf key sig ps=(vfH key sig ps==I7 sig 0):=by unfold Gf;rw[h1,h2,h3,Bool.not_false,Bool.true_and,Bool.true_and,Bool.true_and]
theorem B6z (key sig:List UInt8) (ps:List (List UInt8)):(vfH key sig ps).length=32:=Q5 _
theorem B6e (key sig:List UInt8) (vp:Value) (ps:List (List UInt8)) (hk:key.length=32) (hg:sig.length=64) (w:World) (hp:Q3 w w.heap.size vp ps) (hp0:0<ps.length) (hpl:ps.length≤1000) (hpf:ps.flatten.length≤1000000000):Calls Tryz.prog 73 #[A8 key,A8 sig,vp] w fun e w'=>e=.returned (.bool (Gf key sig ps))∧Below w.heap.size w w':=by
 have HP:=Lib.hid hp;clear hp;have iB:=Mi hg 0 (by decide);have iC:=Mi hg 32 (by decide);have iV:=B6z key sig ps;obtain⟨W0,fO⟩:=H8 (((w.alloc (Obj.cells (c8 key).toArray 23)).alloc (Obj.cells (c8 sig).toArray 61)));have hL:W0=O9 w [(23,(c8 key)),(61,(c8 sig))]:=fO;have B0:=Li hL;have cV:=Me hL rfl;have eP:=Jh 1 hL rfl;have z0:=ZL' 2 hL rfl;have iD:=SL' 2 hL rfl;clear hL;have f1:=Bk.row8 (n:=32) (cV) (hk);rw[fO]at f1;go_enter Tryz.func73,Tryz.ntmps73;go_wp2_with fail;rw[←fO];clear f1;clear fO iD;refine (B5d key hk W0).mono ?_;rintro e W2 ⟨rfl,b3⟩;have B2:=M9 B0 b3;have z2:=Nat.le_trans z0 b3.size;have cW:=cV.bl b3;have cX:=eP.bl b3;clear b3 B0 z0 cV eP;cases hok:Kd key;case false=>
  have HV:=Lib.hid (D8b (sig:=sig) (ps:=ps) hok);rw[D0u hok];clear hok;obtain⟨V4,eC⟩:=H8 (W2.alloc (Obj.cells (C9 (K9 20)).toArray 140));have eQ:W2.heap.size=W2.heap.size:=rfl;have bE:Bk V4 (W2.heap.size) 140 (C9 (K9 20)):=by rw[eC,←eQ];exact Bk.new W2 _ _
  have gG:=Mx eC B2;have aA:=Ce eQ cW;have aB:=Ce eQ cX;have bF:w.heap.size+2≤W2.heap.size:=by rw[←eQ];exact Nat.le_trans z2 (Nat.le_refl _)
  clear eQ;obtain⟨V5,eS⟩:=H8 (E0 V4 ⟨W2.heap.size,0,none⟩ (C9 (Fr key).row));have eT:=Gp 20 eS bE (by simp) ((Mq key).row);have iE:=Cs eS gG (by omega);have bZ:=Fs 20 bE (by simp);rw[eC]at bZ;have aQ:(Fr key).row.length=20:=(Mq key).row;go_wp2_with fail;rw[←eC,←eS];clear bZ aQ;obtain⟨p6,fQ⟩:=H8 (W2.heap.size);rw[←fQ]at eT aA aB bF;try rw[←fQ]
  have iW:w.heap.size+2≤V5.heap.size:=by have hz:=z2;rw[eS,eC];first | (simp;omega) | (simp[World.setCell];omega)
  clear eC eS fQ z2 bE gG;go_ret;exact ⟨by rw[HV.out];rfl,iE⟩
 case true=>
  rw[C6z hok];have HK:=Lib.hid hok;clear hok;obtain⟨V7,bY⟩:=H8 (W2.alloc (Obj.cells (C9 (K9 20)).toArray 140));have eU:W2.heap.size=W2.heap.size:=rfl;have bG:Bk V7 (W2.heap.size) 140 (C9 (K9 20)):=by rw[bY,←eU];exact Bk.new W2 _ _
  have cA:=Bu bY cW;have cB:=Bu bY cX;have gH:=Mx bY B2;have aA:=Ce eU cW;have aB:=Ce eU cX;have bF:w.heap.size+2≤W2.heap.size:=by rw[←eU];exact Nat.le_trans z2 (Nat.le_refl _)
  clear eU;obtain⟨V8,cC⟩:=H8 (E0 V7 ⟨W2.heap.size,0,none⟩ (C9 (Fr key).row));have aW:=Gp 20 cC bG (by simp) ((Mq key).row);have cD:=M6 cC cA (by omega);have cE:=M6 cC cB (by omega);have gI:=Cs cC gH (by omega);have cF:=Fs 20 bG (by simp);rw[bY]at cF;have f9:=Bk.row64 (n:=20) (aW) ((Mq key).row);rw[cC,bY]at f9;have aQ:(Fr key).row.length=20:=(Mq key).row;go_wp2_with fail;rw[←bY,←cC];clear cF f9 aQ;obtain⟨iF,cY⟩:=H8 (W2.heap.size);rw[←cY]at aW aA aB bF;try rw[←cY]
  have gJ:w.heap.size+2≤V8.heap.size:=by have hz:=z2;rw[cC,bY];first | (simp;omega) | (simp[World.setCell];omega)
  clear bY cC cY z2 cA cB bG gH;refine (B6j (Fr key) (Mq key) V8).mono ?_;rintro e iG ⟨rfl,eD⟩;have fR:=M9 gI eD;have gK:=Nat.le_trans gJ eD.size;have cG:=cD.bl eD;have bH:=cE.bl eD;have cH:=aW.bl eD;clear eD gI gJ cD cE aW;cases hsm:Tg (Fr key);case false=>
   have HS:=Lib.hid hsm;clear hsm;have iH:=Bk.xyAt (bH) hg 32 (by decide);go_wp2_with fail;clear iH;refine (C5t (I7 sig 32) (Mi hg 32 (by decide)) iG).mono ?_;rintro e aP ⟨rfl,eE⟩;have gL:=M9 fR eE;have eF:=Nat.le_trans gK eE.size;have bI:=cG.bl eE;have bJ:=bH.bl eE;have bK:=cH.bl eE;clear eE fR gK cG bH cH;cases hsn:Tp (I7 sig 32);case false=>
    have HV:=Lib.hid (D5y (key:=key) (ps:=ps) hsn);clear hsn;obtain⟨gM,aY⟩:=H8 (aP.alloc (Obj.cells (C9 (K9 4)).toArray 184));have aZ:aP.heap.size=aP.heap.size:=rfl;have aR:Bk gM (aP.heap.size) 184 (C9 (K9 4)):=by rw[aY,←aZ];exact Bk.new aP _ _
    have eV:=Mx aY gL;have aC:=Ce aZ bI;have aD:=Ce aZ bJ;have aE:=Ce aZ bK;have bL:w.heap.size+2≤aP.heap.size:=by rw[←aZ];exact Nat.le_trans eF (Nat.le_refl _)
    clear aZ;obtain⟨iI,bM⟩:=H8 (E0 gM ⟨aP.heap.size,0,none⟩ (C9 (Fh (I7 sig 32))));have cZ:=Gp 4 bM aR (by simp) (Jb (I7 sig 32));have fS:=Cs bM eV (by omega);have bN:=Fs 4 aR (by simp);rw[aY]at bN;have aQ:(Fh (I7 sig 32)).length=4:=(Jb (I7 sig 32));go_wp2_with fail;rw[←aY,←bM];clear bN aQ;obtain⟨iX,dC⟩:=H8 (aP.heap.size);rw[←dC]at cZ aC aD aE bL;try rw[←dC]
    have iJ:w.heap.size+2≤iI.heap.size:=by have hz:=eF;rw[bM,aY];first | (simp;omega) | (simp[World.setCell];omega)
    clear aY bM dC eF aR eV;go_ret;exact ⟨by rw[HV.out];rfl,fS⟩
   case true=>
    have HV:=Lib.hid (D8u (ps:=ps) HK.out HS.out hsn);clear hsn;obtain⟨gN,aG⟩:=H8 (aP.alloc (Obj.cells (C9 (K9 4)).toArray 184));have bA:aP.heap.size=aP.heap.size:=rfl;have aS:Bk gN (aP.heap.size) 184 (C9 (K9 4)):=by rw[aG,←bA];exact Bk.new aP _ _
    have bO:=Bu aG bI;have bP:=Bu aG bJ;have bQ:=Bu aG bK;have eX:=Mx aG gL;have aC:=Ce bA bI;have aD:=Ce bA bJ;have aE:=Ce bA bK;have bL:w.heap.size+2≤aP.heap.size:=by rw[←bA];exact Nat.le_trans eF (Nat.le_refl _)
    clear bA;obtain⟨gO,aM⟩:=H8 (E0 gN ⟨aP.heap.size,0,none⟩ (C9 (Fh (I7 sig 32))));have aH:=Gp 4 aM aS (by simp) (Jb (I7 sig 32));have aI:=M6 aM bO (by omega);have aJ:=M6 aM bP (by omega);have aT:=M6 aM bQ (by omega);have bB:=Cs aM eX (by omega);have bR:=Fs 4 aS (by simp);rw[aG]at bR;have aQ:(Fh (I7 sig 32)).length=4:=(Jb (I7 sig 32));go_wp2_with fail;rw[←aG,←aM];clear bR aQ;obtain⟨iK,dD⟩:=H8 (aP.heap.size);rw[←dD]at aH aC aD aE bL;try rw[←dD]
    have dF:w.heap.size+2≤gO.heap.size:=by have hz:=eF;rw[aM,aG];first | (simp;omega) | (simp[World.setCell];omega)
    clear aG aM dD eF bO bP bQ aS eX;have dG:=Gr gO;refine Gd (fun W=>True) ?_;refine Ec (A:=?iL) [0,1,2] trivial (fun W hW=>?fT) ?iM;case fT=>
     exact Fo
    refine M8 [zs 3 36 2 [(I7 sig 0),key],zp 4 37 ((I7 sig 0)::key::ps),zv 5 38 (J3 (M1 ((I7 sig 0)::key::ps))),za 6 11 184 (C9 (K9 4))] (by kernel_rfl) (fun W hW=>trivial) ?dI ?dJ ?dK;case dI=>exact Ng
    case dJ=>
     refine (T7 ⟨?eY,(T7 ⟨?eZ,(T7 ⟨?fB,(T7 ⟨?fC,Mh⟩)⟩)⟩)⟩);case eY=>
      intro o ho us W hW hp Q' hQ';obtain rfl:=Option.some.inj ho;clear hp ho;rw[C7]at hQ' ⊢;dsimp only[F0,J6,List.foldl,zv,za,zs,zp,zb]at hQ' ⊢;simp only[Dk];have fD:=aJ.drew.bl hW;have fE:=aI.drew.bl hW;go_wp2_with fail;exact Ep (hQ' _ _ (Cj _ _) ⟨_,rfl,(Q3.two W _ _ _ (I7 sig 0) key (Bk.by (fD) 0 32 64 (by have hh:=hg;omega) (by decide) (by decide) rfl) (Bk.byAll (fE) hk (by decide))).more (by simp)⟩ nofun)
     case eZ=>
      intro o ho us W hW hp Q' hQ';obtain rfl:=Option.some.inj ho;obtain⟨gP,aX,fF⟩:=hp 0 _ rfl (by kernel_rfl);have aX:us 3=.slice (some ⟨gP,0,none⟩) 2 2:=aX;have fF:Q3 W W.heap.size (.slice (some ⟨gP,0,none⟩) 2 2) [(I7 sig 0),key]:=by rw[←aX];exact fF
      have fF:=Lib.hid fF;clear hp ho;rw[C7]at hQ' ⊢;dsimp only[F0,J6,List.foldl,zv,za,zs,zp,zb]at hQ' ⊢;simp only[Dk];rw[aX]at hQ' ⊢;clear aX;have bW:=E9 bB (E9 dG hW dG.size) bB.size;have dL:=Lib.hid (HP.out.up bW);clear bW;go_wp2_with fail;refine (A4w _ _ _ _ [(I7 sig 0),key] ps W fF.out dL.out hp0 (by simp;omega)).mono ?_;rintro e W2 ⟨v2,rfl,fU,b2⟩;have fU:=Lib.hid fU;go_wp2_with fail;exact Ep (hQ' _ _ b2 fU.out nofun)
     case fB=>intro o ho us W hW hp Q' hQ';obtain rfl:=Option.some.inj ho;have fV:Q3 W W.heap.size (us 4) ((I7 sig 0)::key::ps):=hp 1 _ rfl (by kernel_rfl);have fV:=Lib.hid fV;clear hp ho;rw[C7]at hQ' ⊢;dsimp only[F0,J6,List.foldl,zv,za,zs,zp,zb]at hQ' ⊢;simp only[Dk];have bW:=E9 bB (E9 dG hW dG.size) bB.size;have dL:=Lib.hid (HP.out.up bW);clear bW;go_wp2_with fail;refine (Tt _ ((I7 sig 0)::key::ps) W fV.out (A8m (D4h (Mi hg 0 (by decide)) hk) hpf)).mono ?_;rintro e W2 ⟨rfl,b2⟩;go_wp2_with fail;exact Ep (hQ' _ _ b2 rfl nofun)
     case fC=>exact T8 rfl rfl (fun ρ W=>B1h W ρ _ _ _ _ _)
    case dK=>
    intro us iN gQ hg dM fG;have cI:us 5=(J3 (M1 ((I7 sig 0)::key::ps))):=hg _ (Q6 2 rfl);obtain⟨fW,bS,aU⟩:=hg _ (Q6 3 rfl);have bS:us 6=.pointer (some ⟨fW,0,none⟩):=bS;have eG:=Dg (fG _ (Q6 3 rfl) rfl) bS;have dN:=M9 dG gQ;have eH:=Z8 aI eG.1;have eI:=Z8 aJ eG.1;have eJ:=Z8 aT eG.1;have eK:=Z8 aH eG.1;have fX:=Nat.le_trans dF (Nat.le_trans dG.size eG.1);clear eG;refine RG' ?_;rw[cI,bS];clear hg dM fG cI bS gQ dG;have gR:=M9 bB dN;have gS:=Nat.le_trans dF dN.size;have cJ:=aI.bl dN;have cK:=aJ.bl dN;have cL:=aT.bl dN;have cM:=aH.bl dN;clear dN bB dF aI aJ aT aH;obtain⟨iO,aK⟩:=H8 (E0 iN ⟨fW,0,none⟩ (C9 (M1 ((I7 sig 0)::key::ps))));have aF:=Gp 4 aK aU (by simp) (Cc ((I7 sig 0)::key::ps));have cN:=M6 aK cJ (by omega);have bT:=M6 aK cK (by omega);have aN:=M6 aK cL (by omega);have aO:=M6 aK cM (by omega);have bD:=Cs aK gR (by omega);have dO:=Fs 4 aU (by simp);have dQ:(M1 ((I7 sig 0)::key::ps)).length=4:=(Cc ((I7 sig 0)::key::ps));refine Z3 7 fun Q' hQ'=>?_;dsimp only[F0];go_wp2_with fail;rw[←aK];refine hQ' _ _ trivial ?_;clear hQ' dO dQ;have fY:=Jw aK gS;clear aK gR gS cJ cK cL cM aU;refine Fq ?_;go_wp2_with fail;have bC:=Gr iO
    refine Gd (fun W=>Bk W (fW) 184 (C9 (M1 ((I7 sig 0)::key::ps)))∧Bk W (iF) 140 (C9 (Fr key).row)∧Bk W (iK) 184 (C9 (Fh (I7 sig 32)))) ?_;refine Ec (A:=?iP) [0,2,4] ⟨(aF.drew),(aN.drew),(aO.drew)⟩ (fun W hW=>?fZ) ?iQ;case fZ=>
     have f0:=Bk.row64 (n:=4) (hW.2.2) ((Jb (I7 sig 32)));have f2:=Bk.row64 (n:=20) (hW.2.1) ((Mq key).row);have f4:=Bk.row64 (n:=4) (hW.1) ((Cc ((I7 sig 0)::key::ps)));exact Fo
    refine M8 [zv 1 40 (A8 (J7 (Fh (I7 sig 32)))),zv 3 42 (J3 (Nm (Fr key)).row),zv 5 44 (A8 (J7 (M1 ((I7 sig 0)::key::ps)))),zv 6 45 (J3 (Nn (J7 (Fh (I7 sig 32))) (Nm (Fr key)) (J7 (M1 ((I7 sig 0)::key::ps)))).row),zv 7 46 (A8 (J8 (Nn (J7 (Fh (I7 sig 32))) (Nm (Fr key)) (J7 (M1 ((I7 sig 0)::key::ps)))))),za 8 12 23 (c8 (z8 32))] (by kernel_rfl) (fun W hW=>⟨(aF.drew.bl hW),(aN.drew.bl hW),(aO.drew.bl hW)⟩) ?dS ?dT ?dU;case dS=>exact Ng
    case dT=>
     refine (T7 ⟨?fH,(T7 ⟨?fI,(T7 ⟨?fJ,(T7 ⟨?fK,(T7 ⟨?fL,(T7 ⟨?fM,Mh⟩)⟩)⟩)⟩)⟩)⟩);case fH=>
      intro o ho us W hW hp Q' hQ';obtain rfl:=Option.some.inj ho;clear hp ho;rw[C7]at hQ' ⊢;dsimp only[F0,J6,List.foldl,zv,za]at hQ' ⊢;simp only[Dk];have bW:=E9 bD (E9 bC hW bC.size) bD.size;have dL:=Lib.hid (HP.out.up bW);clear bW;go_wp2_with fail;refine (Ue (Fh (I7 sig 32)) (Jb (I7 sig 32)) W).mono ?_;rintro e W2 ⟨rfl,b2⟩;go_wp2_with fail;exact Ep (hQ' _ _ b2 rfl nofun)
     case fI=>intro o ho us W hW hp Q' hQ';obtain rfl:=Option.some.inj ho;have cO:us 1=(A8 (J7 (Fh (I7 sig 32)))):=hp 0 _ rfl (by kernel_rfl);clear hp ho;rw[C7]at hQ' ⊢;dsimp only[F0,J6,List.foldl,zv,za]at hQ' ⊢;simp only[Dk];rw[cO]at hQ' ⊢;clear cO;have bW:=E9 bD (E9 bC hW bC.size) bD.size;have dL:=Lib.hid (HP.out.up bW);clear bW;go_wp2_with fail;refine (D0y (Fr key) (Mq key) W).mono ?_;rintro e W2 ⟨rfl,b2⟩;go_wp2_with fail;exact Ep (hQ' _ _ b2 rfl nofun)
     case fJ=>intro o ho us W hW hp Q' hQ';obtain rfl:=Option.some.inj ho;have aX:us 3=(J3 (Nm (Fr key)).row):=hp 1 _ rfl (by kernel_rfl);clear hp ho;rw[C7]at hQ' ⊢;dsimp only[F0,J6,List.foldl,zv,za]at hQ' ⊢;simp only[Dk];rw[aX]at hQ' ⊢;clear aX;have bW:=E9 bD (E9 bC hW bC.size) bD.size;have dL:=Lib.hid (HP.out.up bW);clear bW;go_wp2_with fail;refine (Ue (M1 ((I7 sig 0)::key::ps)) (Cc ((I7 sig 0)::key::ps)) W).mono ?_;rintro e W2 ⟨rfl,b2⟩;go_wp2_with fail;exact Ep (hQ' _ _ b2 rfl nofun)
     case fK=>intro o ho us W hW hp Q' hQ';obtain rfl:=Option.some.inj ho;have cO:us 1=(A8 (J7 (Fh (I7 sig 32)))):=hp 0 _ rfl (by kernel_rfl);have aX:us 3=(J3 (Nm (Fr key)).row):=hp 1 _ rfl (by kernel_rfl);have cI:us 5=(A8 (J7 (M1 ((I7 sig 0)::key::ps)))):=hp 2 _ rfl (by kernel_rfl);clear hp ho;rw[C7]at hQ' ⊢;dsimp only[F0,J6,List.foldl,zv,za]at hQ' ⊢;simp only[Dk];rw[cO,aX,cI]at hQ' ⊢;clear cO aX cI;have bW:=E9 bD (E9 bC hW bC.size) bD.size;have dL:=Lib.hid (HP.out.up bW);clear bW;go_wp2_with fail;refine (C6w (J7 (Fh (I7 sig 32))) (Nm (Fr key)) (J7 (M1 ((I7 sig 0)::key::ps))) (Bp (Fh (I7 sig 32))) (D3b (Mq key)) (Bp (M1 ((I7 sig 0)::key::ps))) W).mono ?_;rintro e W2 ⟨rfl,b2⟩;go_wp2_with fail;exact Ep (hQ' _ _ b2 rfl nofun)
     case fL=>intro o ho us W hW hp Q' hQ';obtain rfl:=Option.some.inj ho;have bS:us 6=(J3 (Nn (J7 (Fh (I7 sig 32))) (Nm (Fr key)) (J7 (M1 ((I7 sig 0)::key::ps)))).row):=hp 3 _ rfl (by kernel_rfl);clear hp ho;rw[C7]at hQ' ⊢;dsimp only[F0,J6,List.foldl,zv,za]at hQ' ⊢;simp only[Dk];rw[bS]at hQ' ⊢;clear bS;have bW:=E9 bD (E9 bC hW bC.size) bD.size;have dL:=Lib.hid (HP.out.up bW);clear bW;go_wp2_with fail;refine (Qb (Nn (J7 (Fh (I7 sig 32))) (Nm (Fr key)) (J7 (M1 ((I7 sig 0)::key::ps)))) (C6c (J7 (Fh (I7 sig 32))) (Nm (Fr key)) (J7 (M1 ((I7 sig 0)::key::ps)))) W).mono ?_;rintro e W2 ⟨rfl,b2⟩;go_wp2_with fail;exact Ep (hQ' _ _ b2 rfl nofun)
     case fM=>exact T8 rfl rfl (fun ρ W=>Uh W ρ _ _ _ _ _)
    case dU=>
    intro us iR gT hg dM fG;have cO:us 1=(A8 (J7 (Fh (I7 sig 32)))):=hg _ (Q6 0 rfl);have aX:us 3=(J3 (Nm (Fr key)).row):=hg _ (Q6 1 rfl);have cI:us 5=(A8 (J7 (M1 ((I7 sig 0)::key::ps)))):=hg _ (Q6 2 rfl);have bS:us 6=(J3 (Nn (J7 (Fh (I7 sig 32))) (Nm (Fr key)) (J7 (M1 ((I7 sig 0)::key::ps)))).row):=hg _ (Q6 3 rfl);have gU:us 7=(A8 (J8 (Nn (J7 (Fh (I7 sig 32))) (Nm (Fr key)) (J7 (M1 ((I7 sig 0)::key::ps)))))):=hg _ (Q6 4 rfl);obtain⟨gA,fN,aV⟩:=hg _ (Q6 5 rfl);have fN:us 8=.pointer (some ⟨gA,0,none⟩):=fN;have dW:=Dg (fG _ (Q6 5 rfl) rfl) fN;have dX:=M9 bC gT;have eL:=Z8 cN dW.1;have eM:=Z8 bT dW.1;have eN:=Z8 aN dW.1;have eO:=Z8 aO dW.1;have dY:=Z8 aF dW.1;have gC:=Nat.le_trans fY (Nat.le_trans bC.size dW.1);clear dW;refine Ro ?_;rw[cO,aX,cI,bS,gU,fN];clear hg dM fG cO aX cI bS gU fN gT bC;have gV:=M9 bD dX;have gW:=Nat.le_trans fY dX.size;have cP:=bT.bl dX;have cQ:=aN.bl dX;have cR:=aO.bl dX;have bU:=aF.bl dX;clear dX bD fY cN bT aN aO aF;obtain⟨gY,aL⟩:=H8 (E0 iR ⟨gA,0,none⟩ (c8 (J8 (Nn (J7 (Fh (I7 sig 32))) (Nm (Fr key)) (J7 (M1 ((I7 sig 0)::key::ps)))))))
    have bV:=P8' 32 aL aV (by simp) (Q5 (Nn (J7 (Fh (I7 sig 32))) (Nm (Fr key)) (J7 (M1 ((I7 sig 0)::key::ps)))));have cS:=M6 aL cP (by omega);have cT:=M6 aL cQ (by omega);have cU:=M6 aL cR (by omega);have bX:=M6 aL bU (by omega);have gZ:=Cs aL gV (by omega);have dZ:=C8' 32 aV (by simp);have eA:(J8 (Nn (J7 (Fh (I7 sig 32))) (Nm (Fr key)) (J7 (M1 ((I7 sig 0)::key::ps))))).length=32:=(Q5 (Nn (J7 (Fh (I7 sig 32))) (Nm (Fr key)) (J7 (M1 ((I7 sig 0)::key::ps)))));refine Z3 9 fun Q' hQ'=>?_;dsimp only[F0];go_wp2_with fail;rw[←aL];refine hQ' _ _ ⟨bX,cT,cU⟩ ?_;clear hQ' dZ eA;have iA:=Jw aL gW;clear aL gV gW cP cQ cR bU aV;refine Fq ?_;go_wp2_with fail;have fP:=Gr gY;refine Gd (fun W=>Bk W (gA) 23 (c8 (J8 (Nn (J7 (Fh (I7 sig 32))) (Nm (Fr key)) (J7 (M1 ((I7 sig 0)::key::ps))))))∧Bk W (w.heap.size+1) 61 (c8 sig)) ?_;refine Ec (A:=?iS) [0,1,2,3,4,5] ⟨(bV.drew),(cS.drew)⟩ (fun W hW=>?gF) ?iT;case gF=>have f0:=Bk.row8 (n:=32) (hW.1) ((Q5 (Nn (J7 (Fh (I7 sig 32))) (Nm (Fr key)) (J7 (M1 ((I7 sig 0)::key::ps))))));have f3:=Bk.xyAt (hW.2) hg 0 (by decide);exact Fo
    obtain⟨iY,eB⟩:=H8 (gY.drew);rw[←eB];rw[←eB]at fP;have iU:=M9 gZ fP;have iZ:=Nat.le_trans iA fP.size;clear eB fP gZ iA cS cT cU bX bV;refine Fq ?_;go_wp2_with fail;go_ret;exact ⟨by rw[HV.out];rfl,iU⟩
  case true=>have HV:=Lib.hid (D8m (sig:=sig) (ps:=ps) hsm);clear hsm;go_wp2_with fail;go_ret;exact ⟨by rw[HV.out];rfl,fR⟩
theorem B6d (w:World):Calls Tryz.prog 81 #[.slice none 0 0] w fun e w'=>e=.returned (.slice none 0 0)∧w=w':=by
 have aA:∀(w:World) (a:Option Addr) (n c n' c':Nat),(binOp .eql 45 (.slice a n c) (.slice none n' c')).run Tryz.prog w=.ok (.bool a.isNone) w:=fun w a n c n' c'=>Lib.run_eql_slice_nil w _ _ a n c n' c' Tryz.underlying45;go_enter Tryz.func81,Tryz.ntmps81;go_wp2;go_ret;exact ⟨rfl,rfl⟩
theorem B6f (v:Value) (l:List UInt8) (w:World) (hv:By w 0 w.heap.size v l) (hne:0<l.length) (hn:l.length≤1099511627776) :
 Calls Tryz.prog 81 #[v] w fun e w'=>∃u,e=.returned u∧U4 w' w.heap.size u l∧Below w.heap.size w w':=by
 obtain⟨g,o,c,rfl,h1,h2,_,_,_⟩:=hv.row hne;have aA:=Lib.hid (hv.alloc (Nat.le_refl _) (.cells #[] 5));clear hv;have aD:∀(w:World) (a:Option Addr) (n c n' c':Nat),(binOp .eql 45 (.slice a n c) (.slice none n' c')).run Tryz.prog w=.ok (.bool a.isNone) w:=fun w a n c n' c'=>Lib.run_eql_slice_nil w _ _ a n c n' c' Tryz.underlying45;have ho:Hid (U4 (w.alloc (.cells #[] 5)) w.heap.size (.slice (some ⟨w.heap.size,0,none⟩) 0 0) []):=Lib.hid (World.ownsRow_made w #[] 0 (Nat.le_refl _) (Nat.zero_le _) (by simp));go_enter Tryz.func81,Tryz.ntmps81;go_wp2_with (at_builtin;refine Ye _ w.heap.size _ [] rfl _ _ rfl rfl ho.out _ rfl l 0 _ aA.out (by simp;omega) (by simp) ?_;intro A2 c2 w2 aE aF aB aC aG aH);go_ret;exact ⟨_,rfl,by simpa using aB,(Cj _ _).trans aC⟩
theorem B9r (v:UInt64) (m:Nat) (hm:m<8):(Y9 v).take m++[(v >>> UInt64.ofNat (56-8*m)).toUInt8]=(Y9 v).take (m+1):=by
 match m,hm with
 | 0,_=>rfl
 | 1,_=>rfl
 | 2,_=>rfl
 | 3,_=>rfl
 | 4,_=>rfl
 | 5,_=>rfl
 | 6,_=>rfl
 | 7,_=>
  show [(v >>> 56).toUInt8,(v >>> 48).toUInt8,(v >>> 40).toUInt8,(v >>> 32).toUInt8,(v >>> 24).toUInt8,(v >>> 16).toUInt8,(v >>> 8).toUInt8]++[(v >>> UInt64.ofNat 0).toUInt8]=Y9 v;have:v >>> UInt64.ofNat 0=v:=by
   apply UInt64.toNat_inj.1;rw[UInt64.toNat_shiftRight];simp
  rw[this];rfl
@[simp] theorem A0a (v : UInt64) : (Y9 v).length = 8 := rfl
def D1g (w:World) (bv:Value) (l:List UInt8):Prop:=(bv=.slice none 0 0∧l=[])∨(By w 0 w.heap.size bv l∧0<l.length∧l.length≤1099511627776)
theorem A9t (bv:Value) (l:List UInt8) (w:World) (h:D1g w bv l):Calls Tryz.prog 81 #[bv] w fun e w'=>∃u,e=.returned u∧U4 w' w.heap.size u l∧Below w.heap.size w w':=by
 rcases h with ⟨rfl,rfl⟩ | ⟨h1,h2,h3⟩
 ·refine (B6d w).mono ?_;rintro e w' ⟨rfl,rfl⟩;exact ⟨_,rfl,U4.nil _ _,Below.refl _ _⟩
 ·exact B6f bv l w h1 h2 h3
theorem Rx (bv:Value) (l:List UInt8) (v:UInt64) (w:World) (h:D1g w bv l) (hl:l.length≤1099511627776) :
 Calls Tryz.prog 54 #[bv,.int .u64 (L6 v)] w fun e w'=>∃u,e=.returned u∧U4 w' w.heap.size u (l++Y9 v)∧Below w.heap.size w w':=by
 have H:=Lib.hid h;clear h;go_enter Tryz.func54,Tryz.ntmps54;go_wp2_with fail;refine (A9t bv l w H.out).mono ?_;rintro e w1 ⟨u,rfl,O1,b1⟩;have aC:U4 w1 w.heap.size u (l++(Y9 v).take 0):=by simpa using O1
 have O1:=Lib.hid aC;clear aC;go_wp2_with fail;go_loopw [5,6] (fun s x wr=>∃m:Nat,m≤8∧x=.int .i64 (56-8*(m:Int))∧U4 wr w.heap.size s (l++(Y9 v).take m)∧Below w.heap.size w wr) (fun _ x _=>(intOf x+8).toNat)
 case atStart=>exact ⟨0,by omega,rfl,O1.out,b1⟩
 case round=>
  clear O1 b1;obtain⟨m,hm,rfl,O,B⟩:=hrel;by_cases hlt:m<8
  ·obtain⟨s,hs⟩:=H8 (56-8*m);have es:56-8*(m:Int)=(s:Int):=by omega
   have aD:s<64:=by omega
   have hd:decide (0≤(s:Int))=true:=decide_eq_true (by omega);rw[es];have HS:Hid ((Y9 v).take m++[(v >>> UInt64.ofNat s).toUInt8]=(Y9 v).take (m+1)):=Lib.hid (by rw[hs];exact B9r v m hlt);have ES:=Lib.hid es;have aB:(l++(Y9 v).take m).length≤2199023255552:=by simp;omega
   clear hs es;obtain⟨L,hL⟩:=H8 (l++(Y9 v).take m);have HL:Hid (L++[(v >>> UInt64.ofNat s).toUInt8]=l++(Y9 v).take (m+1)):=Lib.hid (by rw[hL,List.append_assoc,HS.out]);rw[←hL]at O aB;clear hL HS;have O':=Lib.hid O;clear O;go_wp2_with (at_builtin;refine Jf _ w.heap.size _ L rfl _ _ rfl rfl O'.out _ _ rfl rfl (by omega) B.size ?_;intro A2 c2 w7 aG aH aE aF;generalize (L++[(v >>> UInt64.ofNat s).toUInt8]).length=L7 at *);go_roundw;case rel=>exact ⟨m+1,by omega,by rw[←ES.out];all_goals (simp<;>omega),by rw[←HL.out];exact aE,B.trans aF⟩
   case measure=>have:=ES.out;simp[intOf]<;>omega
  ·obtain rfl:m=8:=by omega
   have aA:(Y9 v).take 8=Y9 v:=rfl;rw[aA]at O;have O':=Lib.hid O;clear O aA;go_wp2_with fail;go_ret;exact ⟨_,rfl,O'.out,B⟩
theorem U4.up {w:World} {base:Nat} {v:Value} {l:List UInt8} (h:U4 w base v l):By w 0 w.heap.size v l:=By.less h.by_ (Nat.zero_le _)
def C6j (l x:List UInt8):List UInt8:=l++Y9 (UInt64.ofNat x.length)++x
theorem B2b (l x:List UInt8):(C6j l x).length=l.length+8+x.length:=by simp[C6j];omega
theorem B7d (bv xv:Value) (l x:List UInt8) (w:World) (h:D1g w bv l) (hx:By w 0 w.heap.size xv x) (hl:l.length≤1099511627) (hxl:x.length≤1099511627776) :
 Calls Tryz.prog 111 #[bv,xv] w fun e w'=>∃u,e=.returned u∧U4 w' w.heap.size u (C6j l x)∧Below w.heap.size w w':=by
 obtain⟨A,c,rfl,h2,h3,_⟩:=hx.open_;have hw:IntKind.u64.wrap (x.length:Int)=L6 (UInt64.ofNat x.length):=by
  rw[Iz];unfold L6;simp
 have H:=Lib.hid h;have HX:=Lib.hid hx;have HE:Hid (C6j l x=(l++Y9 (UInt64.ofNat x.length))++x):=Lib.hid rfl;obtain⟨n,hn⟩:=H8 (x.length);rw[←hn]at hw HE h2 hxl HX ⊢;have HN:=Lib.hid hn;clear h hx hn;go_enter Tryz.func111,Tryz.ntmps111;go_wp2_with fail;refine (Rx bv l (UInt64.ofNat n) w H.out (by omega)).mono ?_;rintro e w1 ⟨u,rfl,O1,b1⟩;have aC:=Lib.hid O1;have aD:=Lib.hid (By.up HX.out b1);have aA:(l++Y9 (UInt64.ofNat n)).length≤1099511628000:=by simp;omega
 obtain⟨L,hL⟩:=H8 (l++Y9 (UInt64.ofNat n));rw[←hL]at HE aA;have O2:Hid (U4 w1 w.heap.size u L):=Lib.hid (by rw[hL];exact O1);clear O1 aC hL hw;go_wp2_with (at_builtin;refine Ye _ w.heap.size _ L rfl _ _ rfl rfl O2.out _ rfl x 0 _ aD.out (by rw[←HN.out];omega) b1.size ?_;intro A2 c2 w2 aF aG aB aE aH aI);go_ret;rw[List.length_append]at aB;exact ⟨_,rfl,by rw[HE.out];exact aB,b1.trans aE⟩
theorem C0h (v:Value) (ls:List (List UInt8)) (w:World) (hp:Q3 w w.heap.size v ls) (hsz:ls.flatten.length≤17592186044416) :
 Calls Tryz.prog 70 #[v] w fun e w'=>∃u,e=.returned u∧U4 w' w.heap.size u ls.flatten∧Below w.heap.size w w':=by
 have H:=Lib.hid hp;clear hp;go_enter Tryz.func70,Tryz.ntmps70;go_wp2_with fail;refine (Wo v ls w H.out hsz).mono ?_;rintro e w1 ⟨u,rfl,O1,b1⟩;have O:=Lib.hid O1;clear O1;go_wp2_with fail;go_ret;exact ⟨_,rfl,O.out,b1⟩
def Le:List UInt8:=[119,105,116,97,110]
def Da (tag:UInt8) (body:List UInt8):List UInt8:=C6j (Le++[tag]) body
theorem A8w (tag:UInt8) (body:List UInt8):(Da tag body).length=14+body.length:=by unfold Da;rw[B2b];simp[Le]
theorem A9a:(Le.map v8).toArray=#[.int .u8 119,.int .u8 105,.int .u8 116,.int .u8 97,.int .u8 110]:=by kernel_rfl
theorem B3g (tag:UInt8) (xv:Value) (x:List UInt8) (w:World) (hx:By w 0 w.heap.size xv x) (hxl:x.length≤1099511627776) :
 Calls Tryz.prog 69 #[.int .u8 (n8 tag),xv] w fun e w'=>∃u,e=.returned u∧U4 w' w.heap.size u (Da tag x)∧Below w.heap.size w w':=by
 obtain⟨C,hC⟩:∃C:Array Value,C=#[.int .u8 119,.int .u8 105,.int .u8 116,.int .u8 97,.int .u8 110]:=⟨_,rfl⟩;have aG:C.toList=Le.map v8:=by rw[hC,←A9a]
 have aA:=Go.Lib.run_convert_bytes_const (P:=Tryz.prog) w 45 5 C 5 5 Tryz.underlying45 Tryz.underlying5;have aO:(convert 45 45 (.slice (some ⟨w.heap.size,0,none⟩) 5 5)).run Tryz.prog (w.alloc (.cells #[.int .u8 119,.int .u8 105,.int .u8 116,.int .u8 97,.int .u8 110] 5))=.ok (.slice (some ⟨w.heap.size,0,none⟩) 5 5) (w.alloc (.cells #[.int .u8 119,.int .u8 105,.int .u8 116,.int .u8 97,.int .u8 110] 5 (5,6))):=by rw[hC]at aA;exact aA
 have aH:Below w.heap.size w ((w.alloc (.cells #[.int .u8 119,.int .u8 105,.int .u8 116,.int .u8 97,.int .u8 110] 5 (5,6))).alloc (.cells #[.int .u8 (n8 tag)] 5)):=(Cj _ _).alloc (by simp) _;have aB:∀j u,(Le.map v8)[j]?=some u→((w.alloc (.cells #[.int .u8 119,.int .u8 105,.int .u8 116,.int .u8 97,.int .u8 110] 5 (5,6))).alloc (.cells #[.int .u8 (n8 tag)] 5)).cell? ⟨w.heap.size,j,none⟩=some u:=fun j u hj=>by
  refine Go.Lib.cell?_alloc_marked _ ?_;rw[cell_of_row _ w.heap.size j #[.int .u8 119,.int .u8 105,.int .u8 116,.int .u8 97,.int .u8 110] 5 (5,6) (heap_alloc_new w _),←hC,←Array.getElem?_toList,aG];exact hj
 have aC:∀j u,([v8 tag]:List Value)[j]?=some u→((w.alloc (.cells #[.int .u8 119,.int .u8 105,.int .u8 116,.int .u8 97,.int .u8 110] 5 (5,6))).alloc (.cells #[.int .u8 (n8 tag)] 5)).cell? ⟨w.heap.size+1,j,none⟩=some u:=fun j u hj=>by
  have h1:=cell_of_row _ (w.alloc (.cells #[.int .u8 119,.int .u8 105,.int .u8 116,.int .u8 97,.int .u8 110] 5 (5,6))).heap.size j #[.int .u8 (n8 tag)] 5 (0,0) (heap_alloc_new (w.alloc (.cells #[.int .u8 119,.int .u8 105,.int .u8 116,.int .u8 97,.int .u8 110] 5 (5,6))) (.cells #[.int .u8 (n8 tag)] 5));have e:(w.alloc (.cells #[.int .u8 119,.int .u8 105,.int .u8 116,.int .u8 97,.int .u8 110] 5 (5,6))).heap.size=w.heap.size+1:=by simp
  rw[e]at h1;rw[h1];simpa [v8] using hj
 obtain⟨i0,aI,aJ,aK,aL⟩:=info_parts A6m;have K1:Hid (some (⟨w.heap.size,0,none⟩:Addr)=none→(5:Nat)=0∧(5:Nat)=0):=Lib.hid (fun h=>by cases h);have K2:Hid ((Le.map v8).length=5*1):=Lib.hid (by decide);have K3:Hid (∀b:Addr,some (⟨w.heap.size,0,none⟩:Addr)=some b→∀j u,(Le.map v8)[j]?=some u→((w.alloc (.cells #[.int .u8 119,.int .u8 105,.int .u8 116,.int .u8 97,.int .u8 110] 5 (5,6))).alloc (.cells #[.int .u8 (n8 tag)] 5)).cell? (b.add j)=some u):=Lib.hid (fun b hb j u hj=>by injection hb with hb;subst hb;rw[Ci,Nat.zero_add];exact aB j u hj);have K5:Hid (∀j u,([v8 tag]:List Value)[j]?=some u→((w.alloc (.cells #[.int .u8 119,.int .u8 105,.int .u8 116,.int .u8 97,.int .u8 110] 5 (5,6))).alloc (.cells #[.int .u8 (n8 tag)] 5)).cell? ((⟨w.heap.size+1,0,none⟩:Addr).add j)=some u):=Lib.hid (fun j u hj=>by rw[Ci,Nat.zero_add];exact aC j u hj);have K6:Hid (∀u∈([v8 tag]:List Value),u.oneCell'=true):=Lib.hid (by intro u hu;simp at hu;subst hu;rfl);have HX:=Lib.hid hx;have HI:=Lib.hid aI;have aP:=Lib.hid aJ;have aQ:=Lib.hid aK;have aR:=Lib.hid aL;have HB:=Lib.hid aH;clear hx aI aJ aK aL aB aC hC aG aA aH;go_enter Tryz.func69,Tryz.ntmps69
 go_wp2_with (at_builtin;refine wpList_append_grows _ rfl _ _ 45 rfl 5 i0 _ 1 1 Tryz.underlying45 HI.out aP.out aQ.out aR.out rfl (by decide) (some ⟨w.heap.size,0,none⟩) 5 5 (Le.map v8) rfl K1.out K2.out K3.out ⟨w.heap.size+1,0,none⟩ 1 1 [v8 tag] rfl rfl K5.out K6.out (by decide) (by decide) (by decide) ?_;intro v' w2 aD aM);have aF:U4 w2 w.heap.size v' (Le++[tag]):=by
  refine U4.less ?_ HB.out.size;exact aD
 have aE:Below w.heap.size w w2:=HB.out.trans ((Below.refl _ _).grown aM HB.out.size (fun k hk=>by cases hk));obtain⟨A2,c2,rfl,_,_⟩:=aF.form;have aN:Hid (Le.length=5):=Lib.hid rfl;have HF:Hid (D1g w2 (.slice A2 (Le++[tag]).length c2) (Le++[tag])):=Lib.hid (.inr ⟨aF.up,by simp,by simp[aN.out]⟩);have aS:=Lib.hid (By.up HX.out aE);clear aF aD aM aO;go_wp2_with fail;refine (B7d _ _ (Le++[tag]) x w2 HF.out aS.out (by simp[aN.out]) hxl).mono ?_;rintro e w3 ⟨u,rfl,O3,b3⟩;have aT:=Lib.hid O3;clear O3;go_wp2_with fail;go_ret;exact ⟨_,rfl,U4.less aT.out aE.size,aE.trans (b3.mono aE.size)⟩
theorem By.formE {w:World} {B:Nat} {v:Value} {l:List UInt8} (h:By w 0 B v l):∃A n c,v=.slice A n c:=by
 obtain⟨A,c,rfl,_⟩:=h.open_;exact ⟨_,_,_,rfl⟩
theorem D5q {tag:UInt8} {body:List UInt8} (h:body.length≤1000000):[Da tag body].flatten.length≤1000000000:=by simp[A8w];omega
noncomputable def Kt (seed:List UInt8) (tag:UInt8) (body:List UInt8):List UInt8:=Sk seed [Da tag body]
noncomputable def Jo (key:List UInt8) (tag:UInt8) (body sig:List UInt8):Bool:=Gf key sig [Da tag body]
@[simp, go_sem] theorem Km (seed : List UInt8) (tag : UInt8) (body : List UInt8) : (Kt seed tag body).length = 64 := Ms _ _
theorem C3x (seed:List UInt8) (tag:UInt8) (bv:Value) (body:List UInt8) (hs:seed.length=32) (w:World) (hb:By w 0 w.heap.size bv body) (hbl:body.length≤1000000):Calls Tryz.prog 43 #[A8 seed,.int .u8 (n8 tag),bv] w fun e w'=>e=.returned (A8 (Kt seed tag body))∧Below w.heap.size w w':=by
 have HB:=Lib.hid hb;clear hb;obtain⟨W0,aN⟩:=H8 (((w.alloc (Obj.cells (c8 seed).toArray 23)).alloc (Obj.cells (c8 (z8 64)).toArray 61)));have hL:W0=O9 w [(23,(c8 seed)),(61,(c8 (z8 64)))]:=aN;have B0:=Li hL;have aA:=Me hL rfl;have aD:=Jh 1 hL rfl;clear hL;go_enter Tryz.func43,Tryz.ntmps43;go_wp2_with fail;rw[←aN];clear aN;have S1:=Gr W0;refine Gd (fun W=>Bk W (w.heap.size) 23 (c8 seed)) ?_;refine Ec (A:=?bD) [0,1,2] (aA.drew) (fun W hW=>?bB) ?bE;case bB=>have f0:=Bk.row8 (n:=32) (hW) (hs);exact Fo
 refine M8 [zb 3 10 (Da tag body),zs 4 11 1 [(Da tag body)],zv 5 12 (A8 (Sk seed [(Da tag body)]))] (by kernel_rfl) (fun W hW=>(aA.drew.bl hW)) ?aE ?aF ?aG;case aE=>exact Ng
 case aF=>
  refine (T7 ⟨?aO,(T7 ⟨?aP,(T7 ⟨?aQ,Mh⟩)⟩)⟩);case aO=>
   intro o ho us W hW hp Q' hQ';obtain rfl:=Option.some.inj ho;clear hp ho;rw[C7]at hQ' ⊢;dsimp only[F0,J6,List.foldl,zv,za,zs,zp,zb]at hQ' ⊢;simp only[Dk];have bW:=E9 B0 (E9 S1 hW S1.size) B0.size;have aX:=Lib.hid (HB.out.up bW);clear bW;go_wp2_with fail;refine (B3g tag _ body W aX.out (by omega)).mono ?_;rintro e W2 ⟨v2,rfl,aR,b2⟩;have aR:=Lib.hid aR;go_wp2_with fail;exact Ep (hQ' _ _ b2 aR.out.up nofun)
  case aP=>intro o ho us W hW hp Q' hQ';obtain rfl:=Option.some.inj ho;have aB:By W 0 W.heap.size (us 3) (Da tag body):=hp 0 _ rfl (by kernel_rfl);obtain⟨A3,n3,c3,aS⟩:=aB.formE;rw[aS]at aB;have aB:=Lib.hid aB;clear hp ho;rw[C7]at hQ' ⊢;dsimp only[F0,J6,List.foldl,zv,za,zs,zp,zb]at hQ' ⊢;simp only[Dk];rw[aS]at hQ' ⊢;clear aS;go_wp2_with fail;exact Ep (hQ' _ _ (Cj _ _) ⟨_,rfl,(Q3.one W _ _ (Da tag body) aB.out).more (by simp)⟩ nofun)
  case aQ=>
   intro o ho us W hW hp Q' hQ';obtain rfl:=Option.some.inj ho;have aB:By W 0 W.heap.size (us 3) (Da tag body):=hp 0 _ rfl (by kernel_rfl);have aB:=Lib.hid aB;obtain⟨aY,aH,aI⟩:=hp 1 _ rfl (by kernel_rfl);have aH:us 4=.slice (some ⟨aY,0,none⟩) 1 1:=aH;have aI:Q3 W W.heap.size (.slice (some ⟨aY,0,none⟩) 1 1) [(Da tag body)]:=by rw[←aH];exact aI
   have aI:=Lib.hid aI;clear hp ho;rw[C7]at hQ' ⊢;dsimp only[F0,J6,List.foldl,zv,za,zs,zp,zb]at hQ' ⊢;simp only[Dk];rw[aH]at hQ' ⊢;clear aH;have bW:=E9 B0 (E9 S1 hW S1.size) B0.size;have aX:=Lib.hid (HB.out.up bW);clear bW;go_wp2_with fail;refine (C4f seed _ [(Da tag body)] hs W aI.out (by simp) (by simp) (D5q hbl)).mono ?_;rintro e W2 ⟨rfl,b2⟩;go_wp2_with fail;exact Ep (hQ' _ _ b2 rfl nofun)
 case aG=>
 intro us W2 b3 hg aT bC;have aZ:By W2 0 W2.heap.size (us 3) (Da tag body):=hg _ (Q6 0 rfl);have aZ:=Lib.hid aZ;have bA:us 5=(A8 (Sk seed [(Da tag body)])):=hg _ (Q6 2 rfl);have b4:=M9 S1 b3;refine RG' ?_;rw[bA];clear hg aT bC bA b3 S1;have B2:=M9 B0 b4;have aJ:=aA.bl b4;have aC:=aD.bl b4;clear b4 B0 aA aD;obtain⟨W5,aK⟩:=H8 (E0 W2 ⟨w.heap.size+1,0,none⟩ (c8 (Sk seed [(Da tag body)])));have aU:=P8' 64 aK aC (by simp) (Ms seed [(Da tag body)]);have aV:=M6 aK aJ (by omega);have B5:=Cs aK B2 (by omega);have aL:=C8' 64 aC (by simp);have aM:(Sk seed [(Da tag body)]).length=64:=(Ms seed [(Da tag body)]);refine Z3 6 fun Q' hQ'=>?_;dsimp only[F0];go_wp2_with fail;rw[←aK];refine hQ' _ _ aV ?_;clear hQ' aL aM;clear aK B2 aJ aC;refine Fq ?_;go_wp2_with fail;have aW:(Sk seed [(Da tag body)]).length=64:=(Ms seed [(Da tag body)]);refine bodyPost_ret (E5 rfl _ _ _ _ _ _ rfl aU Tryz.underlying61 rfl (by simp[Tm,aW])) rfl ⟨rfl,B5⟩
theorem C1i (key:List UInt8) (tag:UInt8) (bv:Value) (body:List UInt8) (sig:List UInt8) (hk:key.length=32) (hg:sig.length=64) (w:World) (hb:By w 0 w.heap.size bv body) (hbl:body.length≤1000000):Calls Tryz.prog 50 #[A8 key,.int .u8 (n8 tag),bv,A8 sig] w fun e w'=>e=.returned (.bool (Jo key tag body sig))∧Below w.heap.size w w':=by
 have HB:=Lib.hid hb;clear hb;obtain⟨W0,aK⟩:=H8 (((w.alloc (Obj.cells (c8 key).toArray 23)).alloc (Obj.cells (c8 sig).toArray 61)));have hL:W0=O9 w [(23,(c8 key)),(61,(c8 sig))]:=aK;have B0:=Li hL;have aD:=Me hL rfl;have aE:=Jh 1 hL rfl;clear hL;go_enter Tryz.func50,Tryz.ntmps50;go_wp2_with fail;rw[←aK];clear aK;have S1:=Gr W0;refine Gd (fun W=>Bk W (w.heap.size) 23 (c8 key)∧Bk W (w.heap.size+1) 61 (c8 sig)) ?_;refine Ec (A:=?aX) [0,1,2,3] ⟨(aD.drew),(aE.drew)⟩ (fun W hW=>?aV) ?aY;case aV=>have f0:=Bk.row8 (n:=32) (hW.1) (hk);have f1:=Bk.row8 (n:=64) (hW.2) (hg);exact Fo
 refine M8 [zb 4 13 (Da tag body),zs 5 14 1 [(Da tag body)],zv 6 15 (.bool (Gf key sig [(Da tag body)])),zv 7 8 (.bool (Gf key sig [(Da tag body)]))] (by kernel_rfl) (fun W hW=>⟨(aD.drew.bl hW),(aE.drew.bl hW)⟩) ?aF ?aG ?aH;case aF=>exact Ng
 case aG=>
  refine (T7 ⟨?aL,(T7 ⟨?aM,(T7 ⟨?aN,(T7 ⟨?aO,Mh⟩)⟩)⟩)⟩);case aL=>
   intro o ho us W hW hp Q' hQ';obtain rfl:=Option.some.inj ho;clear hp ho;rw[C7]at hQ' ⊢;dsimp only[F0,J6,List.foldl,zv,za,zs,zp,zb]at hQ' ⊢;simp only[Dk];have bW:=E9 B0 (E9 S1 hW S1.size) B0.size;have aS:=Lib.hid (HB.out.up bW);clear bW;go_wp2_with fail;refine (B3g tag _ body W aS.out (by omega)).mono ?_;rintro e W2 ⟨v2,rfl,aP,b2⟩;have aP:=Lib.hid aP;go_wp2_with fail;exact Ep (hQ' _ _ b2 aP.out.up nofun)
  case aM=>intro o ho us W hW hp Q' hQ';obtain rfl:=Option.some.inj ho;have aA:By W 0 W.heap.size (us 4) (Da tag body):=hp 0 _ rfl (by kernel_rfl);obtain⟨A4,n4,c4,aQ⟩:=aA.formE;rw[aQ]at aA;have aA:=Lib.hid aA;clear hp ho;rw[C7]at hQ' ⊢;dsimp only[F0,J6,List.foldl,zv,za,zs,zp,zb]at hQ' ⊢;simp only[Dk];rw[aQ]at hQ' ⊢;clear aQ;go_wp2_with fail;exact Ep (hQ' _ _ (Cj _ _) ⟨_,rfl,(Q3.one W _ _ (Da tag body) aA.out).more (by simp)⟩ nofun)
  case aN=>
   intro o ho us W hW hp Q' hQ';obtain rfl:=Option.some.inj ho;have aA:By W 0 W.heap.size (us 4) (Da tag body):=hp 0 _ rfl (by kernel_rfl);have aA:=Lib.hid aA;obtain⟨aI,aB,aC⟩:=hp 1 _ rfl (by kernel_rfl);have aB:us 5=.slice (some ⟨aI,0,none⟩) 1 1:=aB;have aC:Q3 W W.heap.size (.slice (some ⟨aI,0,none⟩) 1 1) [(Da tag body)]:=by rw[←aB];exact aC
   have aC:=Lib.hid aC;clear hp ho;rw[C7]at hQ' ⊢;dsimp only[F0,J6,List.foldl,zv,za,zs,zp,zb]at hQ' ⊢;simp only[Dk];rw[aB]at hQ' ⊢;clear aB;have bW:=E9 B0 (E9 S1 hW S1.size) B0.size;have aS:=Lib.hid (HB.out.up bW);clear bW;go_wp2_with fail;refine (B6e key sig _ [(Da tag body)] hk hg W aC.out (by simp) (by simp) (D5q hbl)).mono ?_;rintro e W2 ⟨rfl,b2⟩;go_wp2_with fail;exact Ep (hQ' _ _ b2 rfl nofun)
  case aO=>
   intro o ho us W hW hp Q' hQ';obtain rfl:=Option.some.inj ho;have aA:By W 0 W.heap.size (us 4) (Da tag body):=hp 0 _ rfl (by kernel_rfl);have aA:=Lib.hid aA;obtain⟨aI,aB,aC⟩:=hp 1 _ rfl (by kernel_rfl);have aB:us 5=.slice (some ⟨aI,0,none⟩) 1 1:=aB;have aC:Q3 W W.heap.size (.slice (some ⟨aI,0,none⟩) 1 1) [(Da tag body)]:=by rw[←aB];exact aC
   have aC:=Lib.hid aC;have aJ:us 6=(.bool (Gf key sig [(Da tag body)])):=hp 2 _ rfl (by kernel_rfl);clear hp ho;rw[C7]at hQ' ⊢;dsimp only[F0,J6,List.foldl,zv,za,zs,zp,zb]at hQ' ⊢;simp only[Dk];rw[aB,aJ]at hQ' ⊢;clear aB aJ;go_wp2_with fail;exact Ep (hQ' _ _ (Below.refl _ _) rfl nofun)
 case aH=>
 intro us W2 b3 hg aR aW;have aT:By W2 0 W2.heap.size (us 4) (Da tag body):=hg _ (Q6 0 rfl);have aT:=Lib.hid aT;have aJ:us 6=(.bool (Gf key sig [(Da tag body)])):=hg _ (Q6 2 rfl);have aU:us 7=(.bool (Gf key sig [(Da tag body)])):=hg _ (Q6 3 rfl);have b4:=M9 S1 b3;refine RG' ?_;rw[aJ,aU];clear hg aR aW aJ aU b3 S1;have B2:=M9 B0 b4;clear b4 B0 aD aE;refine Fq ?_;go_wp2_with fail;go_ret;exact ⟨rfl,B2⟩
def Ke (v:Int):UInt64:=UInt64.ofNat (v % 18446744073709551616).toNat
theorem A6s (v:Int):IntKind.u64.wrap v=L6 (Ke v):=by
 unfold L6 Ke;rw[UInt64.toNat_ofNat'];simp only[IntKind.wrap,IntKind.bits,IntKind.signed,Bool.false_and,Bool.false_eq_true,if_false];omega
def Cg (ver:Int) (key:List UInt8):List UInt8:=[Y9 (Ke ver),key].flatten
theorem Yf (ver:Int) {key:List UInt8} (h:key.length=32):(Cg ver key).length=40:=by simp[Cg,h]
theorem B1j (ver:Int) (key:List UInt8) (hk:key.length=32) (w:World):Calls Tryz.prog 44 #[.int .i64 ver,A8 key] w fun e w'=>∃u,e=.returned u∧By w' 0 w'.heap.size u (Cg ver key)∧Below w.heap.size w w':=by
 have aU:=A6s ver;obtain⟨W0,aJ⟩:=H8 ((w.alloc (Obj.cells (c8 key).toArray 23)));have hL:W0=O9 w [(23,(c8 key))]:=aJ;have B0:=Li hL;have aD:=Me hL rfl;clear hL;go_enter Tryz.func44,Tryz.ntmps44;go_wp2_with fail;rw[←aJ];clear aJ;have S1:=Gr W0;refine Gd (fun W=>True) ?_;refine Ec (A:=?aX) [0,1,3] trivial (fun W hW=>?aV) ?aY;case aV=>exact Fo
 refine M8 [zb 2 7 (Y9 (Ke ver)),zs 4 9 2 [(Y9 (Ke ver)),key],zb 5 10 (List.flatten [(Y9 (Ke ver)),key]),zb 6 4 (List.flatten [(Y9 (Ke ver)),key])] (by kernel_rfl) (fun W hW=>trivial) ?aE ?aF ?aG;case aE=>exact Ng
 case aF=>
  refine (T7 ⟨?aK,(T7 ⟨?aL,(T7 ⟨?aM,(T7 ⟨?aN,Mh⟩)⟩)⟩)⟩);case aK=>
   intro o ho us W hW hp Q' hQ';obtain rfl:=Option.some.inj ho;clear hp ho;rw[C7]at hQ' ⊢;dsimp only[F0,J6,List.foldl,zv,za,zs,zp,zb]at hQ' ⊢;simp only[Dk];go_wp2_with fail;refine (Rx (.slice none 0 0) [] (Ke ver) W (.inl ⟨rfl,rfl⟩) (by simp)).mono ?_;rintro e W2 ⟨v2,rfl,aA,b2⟩;have aA:=Lib.hid aA;go_wp2_with fail;exact Ep (hQ' _ _ b2 aA.out.up nofun)
  case aL=>intro o ho us W hW hp Q' hQ';obtain rfl:=Option.some.inj ho;have aA:By W 0 W.heap.size (us 2) (Y9 (Ke ver)):=hp 0 _ rfl (by kernel_rfl);obtain⟨A2,n2,c2,aO⟩:=aA.formE;rw[aO]at aA;have aA:=Lib.hid aA;clear hp ho;rw[C7]at hQ' ⊢;dsimp only[F0,J6,List.foldl,zv,za,zs,zp,zb]at hQ' ⊢;simp only[Dk];rw[aO]at hQ' ⊢;clear aO;have aH:=aD.drew.bl hW;go_wp2_with fail;exact Ep (hQ' _ _ (Cj _ _) ⟨_,rfl,(Q3.two W _ _ _ (Y9 (Ke ver)) key aA.out (Bk.byAll (aH) hk (by decide))).more (by simp)⟩ nofun)
  case aM=>
   intro o ho us W hW hp Q' hQ';obtain rfl:=Option.some.inj ho;have aA:By W 0 W.heap.size (us 2) (Y9 (Ke ver)):=hp 0 _ rfl (by kernel_rfl);have aA:=Lib.hid aA;obtain⟨aI,aB,aC⟩:=hp 1 _ rfl (by kernel_rfl);have aB:us 4=.slice (some ⟨aI,0,none⟩) 2 2:=aB;have aC:Q3 W W.heap.size (.slice (some ⟨aI,0,none⟩) 2 2) [(Y9 (Ke ver)),key]:=by rw[←aB];exact aC
   have aC:=Lib.hid aC;clear hp ho;rw[C7]at hQ' ⊢;dsimp only[F0,J6,List.foldl,zv,za,zs,zp,zb]at hQ' ⊢;simp only[Dk];rw[aB]at hQ' ⊢;clear aB;go_wp2_with fail;refine (C0h _ [(Y9 (Ke ver)),key] W aC.out (by simp;omega)).mono ?_;rintro e W2 ⟨v2,rfl,aA,b2⟩;have aA:=Lib.hid aA;go_wp2_with fail;exact Ep (hQ' _ _ b2 aA.out.up nofun)
  case aN=>
   intro o ho us W hW hp Q' hQ';obtain rfl:=Option.some.inj ho;have aA:By W 0 W.heap.size (us 2) (Y9 (Ke ver)):=hp 0 _ rfl (by kernel_rfl);have aA:=Lib.hid aA;obtain⟨aI,aB,aC⟩:=hp 1 _ rfl (by kernel_rfl);have aB:us 4=.slice (some ⟨aI,0,none⟩) 2 2:=aB;have aC:Q3 W W.heap.size (.slice (some ⟨aI,0,none⟩) 2 2) [(Y9 (Ke ver)),key]:=by rw[←aB];exact aC
   have aC:=Lib.hid aC;have aP:By W 0 W.heap.size (us 5) (List.flatten [(Y9 (Ke ver)),key]):=hp 2 _ rfl (by kernel_rfl);have aP:=Lib.hid aP;clear hp ho;rw[C7]at hQ' ⊢;dsimp only[F0,J6,List.foldl,zv,za,zs,zp,zb]at hQ' ⊢;simp only[Dk];rw[aB]at hQ' ⊢;clear aB;go_wp2_with fail;exact Ep (hQ' _ _ (Below.refl _ _) aP.out nofun)
 case aG=>
 intro us W2 b3 hg aQ aW;have aS:By W2 0 W2.heap.size (us 2) (Y9 (Ke ver)):=hg _ (Q6 0 rfl);have aS:=Lib.hid aS;have aT:By W2 0 W2.heap.size (us 5) (List.flatten [(Y9 (Ke ver)),key]):=hg _ (Q6 2 rfl);have aT:=Lib.hid aT;have aR:By W2 0 W2.heap.size (us 6) (List.flatten [(Y9 (Ke ver)),key]):=hg _ (Q6 3 rfl);have aR:=Lib.hid aR;have b4:=M9 S1 b3;refine RG' ?_;clear hg aQ aW b3 S1;have B2:=M9 B0 b4;clear b4 B0 aD;refine Fq ?_;go_wp2_with fail;go_ret;exact ⟨_,rfl,aR.out,B2⟩
section
structure UV where
 id:List UInt8
 ver:Int
 key:List UInt8
 sig:List UInt8
structure UV.Ok (u : UV) : Prop where
 id:u.id.length=32
 key:u.key.length=32
 sig:u.sig.length=64
def Dt (u:UV):List Value:=c8 u.id++(.int .i64 u.ver::(c8 u.key++c8 u.sig))
def UV.length (u:UV):Nat:=(Dt u).length
def Wu (u:UV):Value:=.agg (Dt u).toArray
def Rs (_:Nat):UV:=⟨z8 32,0,z8 32,z8 64⟩
theorem UV.Ok.len {u:UV} (h:u.Ok):u.length=129:=by unfold UV.length Dt;simp[h.id,h.key,h.sig]
theorem Mf (n:Nat):(Rs n).Ok:=⟨by simp[Rs],by simp[Rs],by simp[Rs]⟩
theorem Gw (u:UV):(Dt u).length=u.length:=rfl
theorem Qd (u:UV):∀x∈Dt u,x.oneCell'=true:=by
 intro x hx;simp only[Dt,List.mem_append,List.mem_cons]at hx;rcases hx with hx | rfl | hx | hx
 ·obtain⟨y,_,rfl⟩:=List.mem_map.1 hx;rfl
 ·rfl
 ·obtain⟨y,_,rfl⟩:=List.mem_map.1 hx;rfl
 ·obtain⟨y,_,rfl⟩:=List.mem_map.1 hx;rfl
theorem A8z:(Tryz.prog.info? 63).map (·.size)=some 129:=by kernel_rfl
theorem B8t:((Tryz.prog.info? 63).bind (·.zero))=some (Wu (Rs 129)):=by kernel_rfl
theorem Zb:Tryz.prog.underlying 63=some (.struct (Ad Tryz.prog 63)):=by kernel_rfl
@[go_sem] theorem F1i (u : UV) : Value.agg (Dt u).toArray = Wu u := rfl
@[go_sem] theorem E6c (t : TypeId) (w : World) (raw : Result Next) (u : UV) : Xw t w raw (Wu u) = .ok (.value (.pointer (some ⟨w.heap.size, 0, none⟩))) (w.alloc (.cells (Dt u).toArray t)) := rfl
@[go_sem] theorem D7i (n : Nat) (w : World) (raw : Result Next) (a : Addr) (u : UV) : Ef n w raw (.pointer (some a)) (Wu u) =
 if u.length=n∧U7 w a n=true then .ok .skip (E0 w a (Dt u)) else raw:=by
 have h1:((Dt u).toArray.all (·.oneCell'))=true:=by rw[Array.all_eq_true'];intro x hx;exact Qd u x (by simpa using hx)
 unfold Wu;rw[Vu,h1];simp only[List.size_toArray,true_and,Gw]
section
variable (w : World) (ρ : Operand → Value) (dst : Option Tmp) (ty : TypeId) (pos : String) (after : Array Edge) (guard : Option (Nat × Bool))
@[go_sem ↓ high] theorem F0p:RL' 63 129:=LL' Zb A8z
@[go_sem ↓ high] theorem E2e:RS' 63 129:=SS' A8z
@[go_sem ↓ high] theorem E2f:RA' 63 (Dt (Rs 129)).toArray:=fun w ρ dst ty pos after guard=>Z5 w ρ dst ty pos after guard 63 (Wu (Rs 129)) B8t
@[go_sem ↓ high] theorem F2b:RB' 63:=BX' _
end
theorem C1z (w:World):(Ig (Ad Tryz.prog 63)).run Tryz.prog w=.ok #[(0,32),(32,1),(33,32),(65,64)] w:=by kernel_rfl
noncomputable def D3p (w:World) (raw:Result Next) (a b c d:Value):Result Next:=match Fp a,b,Fp c,Fp d with
 | some i,.int .i64 v,some k,some s=>if i.length=32∧k.length=32∧s.length=64 then .ok (.value (Wu ⟨i,v,k,s⟩)) w else raw
 | _,_,_,_=>raw
@[go_sem] theorem E8x (w : World) (raw : Result Next) (i k s : List UInt8) (v : Int) (hi : i.length = 32) (hk : k.length = 32) (hs : s.length = 64) : D3p w raw (A8 i) (.int .i64 v) (A8 k) (A8 s) = .ok (.value (Wu ⟨i, v, k, s⟩)) w := by
 unfold D3p;simp only[Fm];simp[hi,hk,hs]
theorem D6b (i k s:List UInt8) (v:Int) (hi:i.length=32) (hk:k.length=32) (hs:s.length=64) (w:World):(Instr.build 63 #[(0,A8 i),(1,.int .i64 v),(2,A8 k),(3,A8 s)]).run Tryz.prog w=.ok (Wu ⟨i,v,k,s⟩) w:=by
 have aA:(Wu (Rs 129)).cells.toList=c8 (z8 32)++(.int .i64 0::(c8 (z8 32)++c8 (z8 64))):=rfl;have h1:=Ay Zb B8t w (C1z w) #[(0,A8 i),(1,.int .i64 v),(2,A8 k),(3,A8 s)] [(0,c8 i),(32,[.int .i64 v]),(33,c8 k),(65,c8 s)] (by
  rw[aA];exact ⟨by simp[hi],rfl,by simp[hi],by simp,rfl,by simp,by simp[hk],rfl,by simp[hk],by simp[hs],rfl,by simp[hs],trivial⟩)
 refine h1.trans (congrArg (fun (cs:List Value)=>Result.ok (Value.agg cs.toArray) w) ?_);rw[aA];simp[Jq,Cz,hi,hk,hs,List.take_append,List.drop_append,List.drop_eq_nil_of_le,List.take_of_length_le,Dt,c8]
@[go_sem ↓ high] theorem E5c (w : World) (ρ : Operand → Value) (dst : Option Tmp) (ty : TypeId) (pos : String) (after : Array Edge) (guard : Option (Nat × Bool)) (x y z t : Operand) :
 (execOp ρ { dst,op:=.build 63 #[(0,x),(1,y),(2,z),(3,t)],type:=ty,pos,after,guard }).run Tryz.prog w=D3p w (T9 Tryz.prog ρ { dst,op:=.build 63 #[(0,x),(1,y),(2,z),(3,t)],type:=ty,pos,after,guard } w) (ρ x) (ρ y) (ρ z) (ρ t):=by
 generalize h0:ρ x=a;generalize h1:ρ y=b;generalize h2:ρ z=c;generalize h3:ρ t=d;unfold D3p;split
 ·rename_i i v k s g0 g1 g2
  replace g0:=Bc g0;replace g1:=Bc g1;replace g2:=Bc g2;split
  ·rename_i h
   refine U9 w ρ dst ty pos after guard _ _ _ ?_;simp only[List.map_toArray,List.map_cons,List.map_nil,h0,h1,h2,h3,g0,g1,g2];exact D6b i k s v h.1 h.2.1 h.2.2 w
  ·rfl
 ·rfl
section
variable {w : World} {g : Nat} {t : TypeId} {u m : UV} {n : Nat}
theorem Bk.rowvc (K:Bk w g t (Dt u)) (hu:u.length=n):J0 w ⟨g,0,none⟩ n=some (Dt u):=by have:=K.rows;rwa [Gw,hu]at this
theorem Bk.canvc (K:Bk w g t (Dt u)) (hu:u.length=n):U7 w ⟨g,0,none⟩ n=true:=K.can (by rw[Gw,hu];omega)
theorem Bk.putvc (K:Bk w g t (Dt u)) (hu:u.length=n) (hm:m.length=n):Bk (E0 w ⟨g,0,none⟩ (Dt m)) g t (Dt m):=K.puts (by rw[Gw,Gw,hu,hm])
theorem UV.loadid (K:Bk w g t (Dt u)) (h:u.Ok):J0 w ⟨g,0,none⟩ 32=some (c8 u.id):=by
 rw[K.rowMid 0 32 (by rw[Gw,h.len];decide)];simp[Dt,h.id]
theorem UV.loadver (K:Bk w g t (Dt u)) (h:u.Ok):w.cell? ⟨g,32,none⟩=some (.int .i64 u.ver):=by
 refine K.at_ ?_;simp[Dt,h.id]
theorem UV.loadkey (K:Bk w g t (Dt u)) (h:u.Ok):J0 w ⟨g,33,none⟩ 32=some (c8 u.key):=by
 rw[K.rowMid 33 32 (by rw[Gw,h.len];decide)];simp[Dt,h.id,h.key,List.drop_append,List.drop_eq_nil_of_le]
theorem UV.loadsig (K:Bk w g t (Dt u)) (h:u.Ok):J0 w ⟨g,65,none⟩ 64=some (c8 u.sig):=by
 rw[K.rowMid 65 64 (by rw[Gw,h.len];decide)];simp[Dt,h.id,h.key,h.sig,List.drop_append,List.drop_eq_nil_of_le,List.take_of_length_le]
end
end
end Go.Proofs.YtlegpkdighoflaaGreat
