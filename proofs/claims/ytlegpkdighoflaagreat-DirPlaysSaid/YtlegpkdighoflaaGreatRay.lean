/- A part of the proof of DirPlays. -/
import Derived.Lib.SlBytesConst
import Derived.Test.YtlegpkdighoflaaGreatRax
set_option linter.unusedVariables false
set_option linter.unusedSimpArgs false
set_option maxRecDepth 100000
set_option maxHeartbeats 40000000
namespace Go.Proofs.YtlegpkdighoflaaGreat
open Go Go.RowKit Sh
noncomputable def vfK (key sig:List UInt8) (ps:List (List UInt8)):List UInt64:=E8 (C6 sig 0::key::ps)
noncomputable def vfH (key sig:List UInt8) (ps:List (List UInt8)):List UInt8:=E3 (Lo (E0 (Df (C6 sig 32))) (Kn (Ds key)) (E0 (vfK key sig ps)))
noncomputable def Eh (key sig:List UInt8) (ps:List (List UInt8)):Bool:=Iq key&&(!Sw (Ds key)&&(Tb (C6 sig 32)&&vfH key sig ps==C6 sig 0))
theorem D4s {key:List UInt8} (h:Iq key=false):A1l key=50:=(A2b h).2
theorem C9i {key:List UInt8} (h:Iq key=true):A1l key=0:=if_pos h
theorem E1y {key sig:List UInt8} {ps:List (List UInt8)} (h:Iq key=false):Eh key sig ps=false:=by unfold Eh;rw[h,Bool.false_and]
theorem E3o {key sig:List UInt8} {ps:List (List UInt8)} (h:Sw (Ds key)=true):Eh key sig ps=false:=by unfold Eh;rw[h];simp
theorem E3d {key sig:List UInt8} {ps:List (List UInt8)} (h:Tb (C6 sig 32)=false):Eh key sig ps=false:=by unfold Eh;rw[h];simp
theorem E1o {key sig:List UInt8} {ps:List (List UInt8)} (h1:Iq key=true) (h2:Sw (Ds key)=false) (h3:Tb (C6 sig 32)=true):Eh key sig ps=(vfH key sig ps==C6 sig 0):=by unfold Eh;rw[h1,h2,h3,Bool.not_false,Bool.true_and,Bool.true_and,Bool.true_and]
theorem B7h (key sig:List UInt8) (ps:List (List UInt8)):(vfH key sig ps).length=32:=J0 _
theorem B8f (key sig:List UInt8) (vp:Value) (ps:List (List UInt8)) (hk:key.length=32) (hg:sig.length=64) (w:World) (hp:J7 w w.heap.size vp ps) (hp0:0<ps.length) (hpl:ps.length≤1000) (hpf:ps.flatten.length≤1000000000):Calls Tryz.prog 73 #[A8 key,A8 sig,vp] w fun e w'=>e=.returned (.bool (Eh key sig ps))∧Below w.heap.size w w':=by
 have HP:=Lib.hid hp;clear hp;have iB:=Jz hg 0 (by decide);have iC:=Jz hg 32 (by decide);have iV:=B7h key sig ps;obtain⟨W0,fO⟩:=E9 (((w.alloc (Obj.cells (c8 key).toArray 23)).alloc (Obj.cells (c8 sig).toArray 61)));have hL:W0=O8 w [(23,(c8 key)),(61,(c8 sig))]:=fO;have B0:=Rf hL;have cV:=Um hL rfl;have eP:=Nm 1 hL rfl;have z0:=ZL' 2 hL rfl;have iD:=SL' 2 hL rfl;clear hL;have f1:=Bk.row8 (n:=32) (cV) (hk);rw[fO]at f1;go_enter Tryz.func73,Tryz.ntmps73;go_wp2_with fail;rw[←fO];clear f1;clear fO iD;refine (C0f key hk W0).mono ?_;rintro e W2 ⟨rfl,b3⟩;have B2:=Q5 B0 b3;have z2:=Nat.le_trans z0 b3.size;have cW:=cV.bl b3;have cX:=eP.bl b3;clear b3 B0 z0 cV eP;cases hok:Iq key;case false=>
  have HV:=Lib.hid (E1y (sig:=sig) (ps:=ps) hok);rw[D4s hok];clear hok;obtain⟨V4,eC⟩:=E9 (W2.alloc (Obj.cells (C9 (M1 20)).toArray 140));have eQ:W2.heap.size=W2.heap.size:=rfl;have bE:Bk V4 (W2.heap.size) 140 (C9 (M1 20)):=by rw[eC,←eQ];exact Bk.new W2 _ _
  have gG:=Uo eC B2;have aA:=Et eQ cW;have aB:=Et eQ cX;have bF:w.heap.size+2≤W2.heap.size:=by rw[←eQ];exact Nat.le_trans z2 (Nat.le_refl _)
  clear eQ;obtain⟨V5,eS⟩:=E9 (C4 V4 ⟨W2.heap.size,0,none⟩ (C9 (Ds key).row));have eT:=Zx 20 eS bE (by simp) ((Km key).row);have iE:=Iu eS gG (by omega);have bZ:=Uh 20 bE (by simp);rw[eC]at bZ;have aQ:(Ds key).row.length=20:=(Km key).row;go_wp2_with fail;rw[←eC,←eS];clear bZ aQ;obtain⟨p6,fQ⟩:=E9 (W2.heap.size);rw[←fQ]at eT aA aB bF;try rw[←fQ]
  have iW:w.heap.size+2≤V5.heap.size:=by have hz:=z2;rw[eS,eC];first | (simp;omega) | (simp[World.setCell];omega)
  clear eC eS fQ z2 bE gG;go_ret;exact ⟨by rw[HV.out];rfl,iE⟩
 case true=>
  rw[C9i hok];have HK:=Lib.hid hok;clear hok;obtain⟨V7,bY⟩:=E9 (W2.alloc (Obj.cells (C9 (M1 20)).toArray 140));have eU:W2.heap.size=W2.heap.size:=rfl;have bG:Bk V7 (W2.heap.size) 140 (C9 (M1 20)):=by rw[bY,←eU];exact Bk.new W2 _ _
  have cA:=Ed bY cW;have cB:=Ed bY cX;have gH:=Uo bY B2;have aA:=Et eU cW;have aB:=Et eU cX;have bF:w.heap.size+2≤W2.heap.size:=by rw[←eU];exact Nat.le_trans z2 (Nat.le_refl _)
  clear eU;obtain⟨V8,cC⟩:=E9 (C4 V7 ⟨W2.heap.size,0,none⟩ (C9 (Ds key).row));have aW:=Zx 20 cC bG (by simp) ((Km key).row);have cD:=U1 cC cA (by omega);have cE:=U1 cC cB (by omega);have gI:=Iu cC gH (by omega);have cF:=Uh 20 bG (by simp);rw[bY]at cF;have f9:=Bk.row64 (n:=20) (aW) ((Km key).row);rw[cC,bY]at f9;have aQ:(Ds key).row.length=20:=(Km key).row;go_wp2_with fail;rw[←bY,←cC];clear cF f9 aQ;obtain⟨iF,cY⟩:=E9 (W2.heap.size);rw[←cY]at aW aA aB bF;try rw[←cY]
  have gJ:w.heap.size+2≤V8.heap.size:=by have hz:=z2;rw[cC,bY];first | (simp;omega) | (simp[World.setCell];omega)
  clear bY cC cY z2 cA cB bG gH;refine (B7i (Ds key) (Km key) V8).mono ?_;rintro e iG ⟨rfl,eD⟩;have fR:=Q5 gI eD;have gK:=Nat.le_trans gJ eD.size;have cG:=cD.bl eD;have bH:=cE.bl eD;have cH:=aW.bl eD;clear eD gI gJ cD cE aW;cases hsm:Sw (Ds key);case false=>
   have HS:=Lib.hid hsm;clear hsm;have iH:=Bk.xyAt (bH) hg 32 (by decide);go_wp2_with fail;clear iH;refine (C8x (C6 sig 32) (Jz hg 32 (by decide)) iG).mono ?_;rintro e aP ⟨rfl,eE⟩;have gL:=Q5 fR eE;have eF:=Nat.le_trans gK eE.size;have bI:=cG.bl eE;have bJ:=bH.bl eE;have bK:=cH.bl eE;clear eE fR gK cG bH cH;cases hsn:Tb (C6 sig 32);case false=>
    have HV:=Lib.hid (E3d (key:=key) (ps:=ps) hsn);clear hsn;obtain⟨gM,aY⟩:=E9 (aP.alloc (Obj.cells (C9 (M1 4)).toArray 184));have aZ:aP.heap.size=aP.heap.size:=rfl;have aR:Bk gM (aP.heap.size) 184 (C9 (M1 4)):=by rw[aY,←aZ];exact Bk.new aP _ _
    have eV:=Uo aY gL;have aC:=Et aZ bI;have aD:=Et aZ bJ;have aE:=Et aZ bK;have bL:w.heap.size+2≤aP.heap.size:=by rw[←aZ];exact Nat.le_trans eF (Nat.le_refl _)
    clear aZ;obtain⟨iI,bM⟩:=E9 (C4 gM ⟨aP.heap.size,0,none⟩ (C9 (Df (C6 sig 32))));have cZ:=Zx 4 bM aR (by simp) (Gg (C6 sig 32));have fS:=Iu bM eV (by omega);have bN:=Uh 4 aR (by simp);rw[aY]at bN;have aQ:(Df (C6 sig 32)).length=4:=(Gg (C6 sig 32));go_wp2_with fail;rw[←aY,←bM];clear bN aQ;obtain⟨iX,dC⟩:=E9 (aP.heap.size);rw[←dC]at cZ aC aD aE bL;try rw[←dC]
    have iJ:w.heap.size+2≤iI.heap.size:=by have hz:=eF;rw[bM,aY];first | (simp;omega) | (simp[World.setCell];omega)
    clear aY bM dC eF aR eV;go_ret;exact ⟨by rw[HV.out];rfl,fS⟩
   case true=>
    have HV:=Lib.hid (E1o (ps:=ps) HK.out HS.out hsn);clear hsn;obtain⟨gN,aG⟩:=E9 (aP.alloc (Obj.cells (C9 (M1 4)).toArray 184));have bA:aP.heap.size=aP.heap.size:=rfl;have aS:Bk gN (aP.heap.size) 184 (C9 (M1 4)):=by rw[aG,←bA];exact Bk.new aP _ _
    have bO:=Ed aG bI;have bP:=Ed aG bJ;have bQ:=Ed aG bK;have eX:=Uo aG gL;have aC:=Et bA bI;have aD:=Et bA bJ;have aE:=Et bA bK;have bL:w.heap.size+2≤aP.heap.size:=by rw[←bA];exact Nat.le_trans eF (Nat.le_refl _)
    clear bA;obtain⟨gO,aM⟩:=E9 (C4 gN ⟨aP.heap.size,0,none⟩ (C9 (Df (C6 sig 32))));have aH:=Zx 4 aM aS (by simp) (Gg (C6 sig 32));have aI:=U1 aM bO (by omega);have aJ:=U1 aM bP (by omega);have aT:=U1 aM bQ (by omega);have bB:=Iu aM eX (by omega);have bR:=Uh 4 aS (by simp);rw[aG]at bR;have aQ:(Df (C6 sig 32)).length=4:=(Gg (C6 sig 32));go_wp2_with fail;rw[←aG,←aM];clear bR aQ;obtain⟨iK,dD⟩:=E9 (aP.heap.size);rw[←dD]at aH aC aD aE bL;try rw[←dD]
    have dF:w.heap.size+2≤gO.heap.size:=by have hz:=eF;rw[aM,aG];first | (simp;omega) | (simp[World.setCell];omega)
    clear aG aM dD eF bO bP bQ aS eX;have dG:=Kg gO;refine Jh (fun W=>True) ?_;refine Fs (A:=?iL) [0,1,2] trivial (fun W hW=>?fT) ?iM;case fT=>
     exact Gq
    refine N8 [zs 3 36 2 [(C6 sig 0),key],zp 4 37 ((C6 sig 0)::key::ps),zv 5 38 (H8 (E8 ((C6 sig 0)::key::ps))),za 6 11 184 (C9 (M1 4))] (by kernel_rfl) (fun W hW=>trivial) ?dI ?dJ ?dK;case dI=>exact MO'
    case dJ=>
     refine (Z3 ⟨?eY,(Z3 ⟨?eZ,(Z3 ⟨?fB,(Z3 ⟨?fC,Zh⟩)⟩)⟩)⟩);case eY=>
      intro o ho us W hW hp Q' hQ';obtain rfl:=Option.some.inj ho;clear hp ho;rw[C1]at hQ' ⊢;dsimp only[C7,E5,List.foldl,zv,za,zs,zp,zb]at hQ' ⊢;simp only[Cy];have fD:=aJ.drew.bl hW;have fE:=aI.drew.bl hW;go_wp2_with fail;exact Ea (hQ' _ _ (Bh _ _) ⟨_,rfl,(J7.two W _ _ _ (C6 sig 0) key (Bk.by (fD) 0 32 64 (by have hh:=hg;omega) (by decide) (by decide) rfl) (Bk.byAll (fE) hk (by decide))).more (by simp)⟩ nofun)
     case eZ=>
      intro o ho us W hW hp Q' hQ';obtain rfl:=Option.some.inj ho;obtain⟨gP,aX,fF⟩:=hp 0 _ rfl (by kernel_rfl);have aX:us 3=.slice (some ⟨gP,0,none⟩) 2 2:=aX;have fF:J7 W W.heap.size (.slice (some ⟨gP,0,none⟩) 2 2) [(C6 sig 0),key]:=by rw[←aX];exact fF
      have fF:=Lib.hid fF;clear hp ho;rw[C1]at hQ' ⊢;dsimp only[C7,E5,List.foldl,zv,za,zs,zp,zb]at hQ' ⊢;simp only[Cy];rw[aX]at hQ' ⊢;clear aX;have bW:=C2 bB (C2 dG hW dG.size) bB.size;have dL:=Lib.hid (HP.out.up bW);clear bW;go_wp2_with fail;refine (A4r _ _ _ _ [(C6 sig 0),key] ps W fF.out dL.out hp0 (by simp;omega)).mono ?_;rintro e W2 ⟨v2,rfl,fU,b2⟩;have fU:=Lib.hid fU;go_wp2_with fail;exact Ea (hQ' _ _ b2 fU.out nofun)
     case fB=>intro o ho us W hW hp Q' hQ';obtain rfl:=Option.some.inj ho;have fV:J7 W W.heap.size (us 4) ((C6 sig 0)::key::ps):=hp 1 _ rfl (by kernel_rfl);have fV:=Lib.hid fV;clear hp ho;rw[C1]at hQ' ⊢;dsimp only[C7,E5,List.foldl,zv,za,zs,zp,zb]at hQ' ⊢;simp only[Cy];have bW:=C2 bB (C2 dG hW dG.size) bB.size;have dL:=Lib.hid (HP.out.up bW);clear bW;go_wp2_with fail;refine (Td _ ((C6 sig 0)::key::ps) W fV.out (A9m (E0w (Jz hg 0 (by decide)) hk) hpf)).mono ?_;rintro e W2 ⟨rfl,b2⟩;go_wp2_with fail;exact Ea (hQ' _ _ b2 rfl nofun)
     case fC=>exact Fv rfl rfl (fun ρ W=>B5g W ρ _ _ _ _ _)
    case dK=>
    intro us iN gQ hg dM fG;have cI:us 5=(H8 (E8 ((C6 sig 0)::key::ps))):=hg _ (Ca 2 rfl);obtain⟨fW,bS,aU⟩:=hg _ (Ca 3 rfl);have bS:us 6=.pointer (some ⟨fW,0,none⟩):=bS;have eG:=Qu (fG _ (Ca 3 rfl) rfl) bS;have dN:=Q5 dG gQ;have eH:=Mp aI eG.1;have eI:=Mp aJ eG.1;have eJ:=Mp aT eG.1;have eK:=Mp aH eG.1;have fX:=Nat.le_trans dF (Nat.le_trans dG.size eG.1);clear eG;refine RG' ?_;rw[cI,bS];clear hg dM fG cI bS gQ dG;have gR:=Q5 bB dN;have gS:=Nat.le_trans dF dN.size;have cJ:=aI.bl dN;have cK:=aJ.bl dN;have cL:=aT.bl dN;have cM:=aH.bl dN;clear dN bB dF aI aJ aT aH;obtain⟨iO,aK⟩:=E9 (C4 iN ⟨fW,0,none⟩ (C9 (E8 ((C6 sig 0)::key::ps))));have aF:=Zx 4 aK aU (by simp) (Z5 ((C6 sig 0)::key::ps));have cN:=U1 aK cJ (by omega);have bT:=U1 aK cK (by omega);have aN:=U1 aK cL (by omega);have aO:=U1 aK cM (by omega);have bD:=Iu aK gR (by omega);have dO:=Uh 4 aU (by simp);have dQ:(E8 ((C6 sig 0)::key::ps)).length=4:=(Z5 ((C6 sig 0)::key::ps));refine Ci 7 fun Q' hQ'=>?_;dsimp only[C7];go_wp2_with fail;rw[←aK];refine hQ' _ _ trivial ?_;clear hQ' dO dQ;have fY:=ZP' aK gS;clear aK gR gS cJ cK cL cM aU;refine It ?_;go_wp2_with fail;have bC:=Kg iO
    refine Jh (fun W=>Bk W (fW) 184 (C9 (E8 ((C6 sig 0)::key::ps)))∧Bk W (iF) 140 (C9 (Ds key).row)∧Bk W (iK) 184 (C9 (Df (C6 sig 32)))) ?_;refine Fs (A:=?iP) [0,2,4] ⟨(aF.drew),(aN.drew),(aO.drew)⟩ (fun W hW=>?fZ) ?iQ;case fZ=>
     have f0:=Bk.row64 (n:=4) (hW.2.2) ((Gg (C6 sig 32)));have f2:=Bk.row64 (n:=20) (hW.2.1) ((Km key).row);have f4:=Bk.row64 (n:=4) (hW.1) ((Z5 ((C6 sig 0)::key::ps)));exact Gq
    refine N8 [zv 1 40 (A8 (E0 (Df (C6 sig 32)))),zv 3 42 (H8 (Kn (Ds key)).row),zv 5 44 (A8 (E0 (E8 ((C6 sig 0)::key::ps)))),zv 6 45 (H8 (Lo (E0 (Df (C6 sig 32))) (Kn (Ds key)) (E0 (E8 ((C6 sig 0)::key::ps)))).row),zv 7 46 (A8 (E3 (Lo (E0 (Df (C6 sig 32))) (Kn (Ds key)) (E0 (E8 ((C6 sig 0)::key::ps)))))),za 8 12 23 (c8 (z8 32))] (by kernel_rfl) (fun W hW=>⟨(aF.drew.bl hW),(aN.drew.bl hW),(aO.drew.bl hW)⟩) ?dS ?dT ?dU;case dS=>exact MO'
    case dT=>
     refine (Z3 ⟨?fH,(Z3 ⟨?fI,(Z3 ⟨?fJ,(Z3 ⟨?fK,(Z3 ⟨?fL,(Z3 ⟨?fM,Zh⟩)⟩)⟩)⟩)⟩)⟩);case fH=>
      intro o ho us W hW hp Q' hQ';obtain rfl:=Option.some.inj ho;clear hp ho;rw[C1]at hQ' ⊢;dsimp only[C7,E5,List.foldl,zv,za]at hQ' ⊢;simp only[Cy];have bW:=C2 bD (C2 bC hW bC.size) bD.size;have dL:=Lib.hid (HP.out.up bW);clear bW;go_wp2_with fail;refine (Ul (Df (C6 sig 32)) (Gg (C6 sig 32)) W).mono ?_;rintro e W2 ⟨rfl,b2⟩;go_wp2_with fail;exact Ea (hQ' _ _ b2 rfl nofun)
     case fI=>intro o ho us W hW hp Q' hQ';obtain rfl:=Option.some.inj ho;have cO:us 1=(A8 (E0 (Df (C6 sig 32)))):=hp 0 _ rfl (by kernel_rfl);clear hp ho;rw[C1]at hQ' ⊢;dsimp only[C7,E5,List.foldl,zv,za]at hQ' ⊢;simp only[Cy];rw[cO]at hQ' ⊢;clear cO;have bW:=C2 bD (C2 bC hW bC.size) bD.size;have dL:=Lib.hid (HP.out.up bW);clear bW;go_wp2_with fail;refine (D4u (Ds key) (Km key) W).mono ?_;rintro e W2 ⟨rfl,b2⟩;go_wp2_with fail;exact Ea (hQ' _ _ b2 rfl nofun)
     case fJ=>intro o ho us W hW hp Q' hQ';obtain rfl:=Option.some.inj ho;have aX:us 3=(H8 (Kn (Ds key)).row):=hp 1 _ rfl (by kernel_rfl);clear hp ho;rw[C1]at hQ' ⊢;dsimp only[C7,E5,List.foldl,zv,za]at hQ' ⊢;simp only[Cy];rw[aX]at hQ' ⊢;clear aX;have bW:=C2 bD (C2 bC hW bC.size) bD.size;have dL:=Lib.hid (HP.out.up bW);clear bW;go_wp2_with fail;refine (Ul (E8 ((C6 sig 0)::key::ps)) (Z5 ((C6 sig 0)::key::ps)) W).mono ?_;rintro e W2 ⟨rfl,b2⟩;go_wp2_with fail;exact Ea (hQ' _ _ b2 rfl nofun)
     case fK=>intro o ho us W hW hp Q' hQ';obtain rfl:=Option.some.inj ho;have cO:us 1=(A8 (E0 (Df (C6 sig 32)))):=hp 0 _ rfl (by kernel_rfl);have aX:us 3=(H8 (Kn (Ds key)).row):=hp 1 _ rfl (by kernel_rfl);have cI:us 5=(A8 (E0 (E8 ((C6 sig 0)::key::ps)))):=hp 2 _ rfl (by kernel_rfl);clear hp ho;rw[C1]at hQ' ⊢;dsimp only[C7,E5,List.foldl,zv,za]at hQ' ⊢;simp only[Cy];rw[cO,aX,cI]at hQ' ⊢;clear cO aX cI;have bW:=C2 bD (C2 bC hW bC.size) bD.size;have dL:=Lib.hid (HP.out.up bW);clear bW;go_wp2_with fail;refine (C8h (E0 (Df (C6 sig 32))) (Kn (Ds key)) (E0 (E8 ((C6 sig 0)::key::ps))) (Z0 (Df (C6 sig 32))) (D7b (Km key)) (Z0 (E8 ((C6 sig 0)::key::ps))) W).mono ?_;rintro e W2 ⟨rfl,b2⟩;go_wp2_with fail;exact Ea (hQ' _ _ b2 rfl nofun)
     case fL=>intro o ho us W hW hp Q' hQ';obtain rfl:=Option.some.inj ho;have bS:us 6=(H8 (Lo (E0 (Df (C6 sig 32))) (Kn (Ds key)) (E0 (E8 ((C6 sig 0)::key::ps)))).row):=hp 3 _ rfl (by kernel_rfl);clear hp ho;rw[C1]at hQ' ⊢;dsimp only[C7,E5,List.foldl,zv,za]at hQ' ⊢;simp only[Cy];rw[bS]at hQ' ⊢;clear bS;have bW:=C2 bD (C2 bC hW bC.size) bD.size;have dL:=Lib.hid (HP.out.up bW);clear bW;go_wp2_with fail;refine (Ud (Lo (E0 (Df (C6 sig 32))) (Kn (Ds key)) (E0 (E8 ((C6 sig 0)::key::ps)))) (C9y (E0 (Df (C6 sig 32))) (Kn (Ds key)) (E0 (E8 ((C6 sig 0)::key::ps)))) W).mono ?_;rintro e W2 ⟨rfl,b2⟩;go_wp2_with fail;exact Ea (hQ' _ _ b2 rfl nofun)
     case fM=>exact Fv rfl rfl (fun ρ W=>Uk W ρ _ _ _ _ _)
    case dU=>
    intro us iR gT hg dM fG;have cO:us 1=(A8 (E0 (Df (C6 sig 32)))):=hg _ (Ca 0 rfl);have aX:us 3=(H8 (Kn (Ds key)).row):=hg _ (Ca 1 rfl);have cI:us 5=(A8 (E0 (E8 ((C6 sig 0)::key::ps)))):=hg _ (Ca 2 rfl);have bS:us 6=(H8 (Lo (E0 (Df (C6 sig 32))) (Kn (Ds key)) (E0 (E8 ((C6 sig 0)::key::ps)))).row):=hg _ (Ca 3 rfl);have gU:us 7=(A8 (E3 (Lo (E0 (Df (C6 sig 32))) (Kn (Ds key)) (E0 (E8 ((C6 sig 0)::key::ps)))))):=hg _ (Ca 4 rfl);obtain⟨gA,fN,aV⟩:=hg _ (Ca 5 rfl);have fN:us 8=.pointer (some ⟨gA,0,none⟩):=fN;have dW:=Qu (fG _ (Ca 5 rfl) rfl) fN;have dX:=Q5 bC gT;have eL:=Mp cN dW.1;have eM:=Mp bT dW.1;have eN:=Mp aN dW.1;have eO:=Mp aO dW.1;have dY:=Mp aF dW.1;have gC:=Nat.le_trans fY (Nat.le_trans bC.size dW.1);clear dW;refine RP' ?_;rw[cO,aX,cI,bS,gU,fN];clear hg dM fG cO aX cI bS gU fN gT bC;have gV:=Q5 bD dX;have gW:=Nat.le_trans fY dX.size;have cP:=bT.bl dX;have cQ:=aN.bl dX;have cR:=aO.bl dX;have bU:=aF.bl dX;clear dX bD fY cN bT aN aO aF;obtain⟨gY,aL⟩:=E9 (C4 iR ⟨gA,0,none⟩ (c8 (E3 (Lo (E0 (Df (C6 sig 32))) (Kn (Ds key)) (E0 (E8 ((C6 sig 0)::key::ps)))))))
    have bV:=P8' 32 aL aV (by simp) (J0 (Lo (E0 (Df (C6 sig 32))) (Kn (Ds key)) (E0 (E8 ((C6 sig 0)::key::ps)))));have cS:=U1 aL cP (by omega);have cT:=U1 aL cQ (by omega);have cU:=U1 aL cR (by omega);have bX:=U1 aL bU (by omega);have gZ:=Iu aL gV (by omega);have dZ:=C8' 32 aV (by simp);have eA:(E3 (Lo (E0 (Df (C6 sig 32))) (Kn (Ds key)) (E0 (E8 ((C6 sig 0)::key::ps))))).length=32:=(J0 (Lo (E0 (Df (C6 sig 32))) (Kn (Ds key)) (E0 (E8 ((C6 sig 0)::key::ps)))));refine Ci 9 fun Q' hQ'=>?_;dsimp only[C7];go_wp2_with fail;rw[←aL];refine hQ' _ _ ⟨bX,cT,cU⟩ ?_;clear hQ' dZ eA;have iA:=ZP' aL gW;clear aL gV gW cP cQ cR bU aV;refine It ?_;go_wp2_with fail;have fP:=Kg gY;refine Jh (fun W=>Bk W (gA) 23 (c8 (E3 (Lo (E0 (Df (C6 sig 32))) (Kn (Ds key)) (E0 (E8 ((C6 sig 0)::key::ps))))))∧Bk W (w.heap.size+1) 61 (c8 sig)) ?_;refine Fs (A:=?iS) [0,1,2,3,4,5] ⟨(bV.drew),(cS.drew)⟩ (fun W hW=>?gF) ?iT;case gF=>have f0:=Bk.row8 (n:=32) (hW.1) ((J0 (Lo (E0 (Df (C6 sig 32))) (Kn (Ds key)) (E0 (E8 ((C6 sig 0)::key::ps))))));have f3:=Bk.xyAt (hW.2) hg 0 (by decide);exact Gq
    obtain⟨iY,eB⟩:=E9 (gY.drew);rw[←eB];rw[←eB]at fP;have iU:=Q5 gZ fP;have iZ:=Nat.le_trans iA fP.size;clear eB fP gZ iA cS cT cU bX bV;refine It ?_;go_wp2_with fail;go_ret;exact ⟨by rw[HV.out];rfl,iU⟩
  case true=>have HV:=Lib.hid (E3o (sig:=sig) (ps:=ps) hsm);clear hsm;go_wp2_with fail;go_ret;exact ⟨by rw[HV.out];rfl,fR⟩
theorem B9x (w:World):Calls Tryz.prog 81 #[.slice none 0 0] w fun e w'=>e=.returned (.slice none 0 0)∧w=w':=by
 have aA:∀(w:World) (a:Option Addr) (n c n' c':Nat),(binOp .eql 45 (.slice a n c) (.slice none n' c')).run Tryz.prog w=.ok (.bool a.isNone) w:=fun w a n c n' c'=>Lib.run_eql_slice_nil w _ _ a n c n' c' Tryz.underlying45;go_enter Tryz.func81,Tryz.ntmps81;go_wp2;go_ret;exact ⟨rfl,rfl⟩
theorem B6y (v:Value) (l:List UInt8) (w:World) (hv:By w 0 w.heap.size v l) (hne:0<l.length) (hn:l.length≤1099511627776) :
 Calls Tryz.prog 81 #[v] w fun e w'=>∃u,e=.returned u∧M9 w' w.heap.size u l∧Below w.heap.size w w':=by
 obtain⟨g,o,c,rfl,h1,h2,_,_,_⟩:=hv.row hne;have aA:=Lib.hid (hv.alloc (Nat.le_refl _) (.cells #[] 5));clear hv;have aD:∀(w:World) (a:Option Addr) (n c n' c':Nat),(binOp .eql 45 (.slice a n c) (.slice none n' c')).run Tryz.prog w=.ok (.bool a.isNone) w:=fun w a n c n' c'=>Lib.run_eql_slice_nil w _ _ a n c n' c' Tryz.underlying45;have ho:Hid (M9 (w.alloc (.cells #[] 5)) w.heap.size (.slice (some ⟨w.heap.size,0,none⟩) 0 0) []):=Lib.hid (World.ownsRow_made w #[] 0 (Nat.le_refl _) (Nat.zero_le _) (by simp));go_enter Tryz.func81,Tryz.ntmps81;go_wp2_with (at_builtin;refine Yd _ w.heap.size _ [] rfl _ _ rfl rfl ho.out _ rfl l 0 _ aA.out (by simp;omega) (by simp) ?_;intro A2 c2 w2 aE aF aB aC aG aH);go_ret;exact ⟨_,rfl,by simpa using aB,(Bh _ _).trans aC⟩
theorem C3e (v:UInt64) (m:Nat) (hm:m<8):(P9 v).take m++[(v >>> UInt64.ofNat (56-8*m)).toUInt8]=(P9 v).take (m+1):=by
 match m,hm with
 | 0,_=>rfl
 | 1,_=>rfl
 | 2,_=>rfl
 | 3,_=>rfl
 | 4,_=>rfl
 | 5,_=>rfl
 | 6,_=>rfl
 | 7,_=>
  show [(v >>> 56).toUInt8,(v >>> 48).toUInt8,(v >>> 40).toUInt8,(v >>> 32).toUInt8,(v >>> 24).toUInt8,(v >>> 16).toUInt8,(v >>> 8).toUInt8]++[(v >>> UInt64.ofNat 0).toUInt8]=P9 v;have:v >>> UInt64.ofNat 0=v:=by
   apply UInt64.toNat_inj.1;rw[UInt64.toNat_shiftRight];simp
  rw[this];rfl
@[simp] theorem A0q (v : UInt64) : (P9 v).length = 8 := rfl
def D7n (w:World) (bv:Value) (l:List UInt8):Prop:=(bv=.slice none 0 0∧l=[])∨(By w 0 w.heap.size bv l∧0<l.length∧l.length≤1099511627776)
theorem B4u (bv:Value) (l:List UInt8) (w:World) (h:D7n w bv l):Calls Tryz.prog 81 #[bv] w fun e w'=>∃u,e=.returned u∧M9 w' w.heap.size u l∧Below w.heap.size w w':=by
 rcases h with ⟨rfl,rfl⟩ | ⟨h1,h2,h3⟩
 ·refine (B9x w).mono ?_;rintro e w' ⟨rfl,rfl⟩;exact ⟨_,rfl,M9.nil _ _,Below.refl _ _⟩
 ·exact B6y bv l w h1 h2 h3
theorem Rj (bv:Value) (l:List UInt8) (v:UInt64) (w:World) (h:D7n w bv l) (hl:l.length≤1099511627776) :
 Calls Tryz.prog 54 #[bv,.int .u64 (F0 v)] w fun e w'=>∃u,e=.returned u∧M9 w' w.heap.size u (l++P9 v)∧Below w.heap.size w w':=by
 have H:=Lib.hid h;clear h;go_enter Tryz.func54,Tryz.ntmps54;go_wp2_with fail;refine (B4u bv l w H.out).mono ?_;rintro e w1 ⟨u,rfl,O1,b1⟩;have aC:M9 w1 w.heap.size u (l++(P9 v).take 0):=by simpa using O1
 have O1:=Lib.hid aC;clear aC;go_wp2_with fail;go_loopw [5,6] (fun s x wr=>∃m:Nat,m≤8∧x=.int .i64 (56-8*(m:Int))∧M9 wr w.heap.size s (l++(P9 v).take m)∧Below w.heap.size w wr) (fun _ x _=>(intOf x+8).toNat)
 case atStart=>exact ⟨0,by omega,rfl,O1.out,b1⟩
 case round=>
  clear O1 b1;obtain⟨m,hm,rfl,O,B⟩:=hrel;by_cases hlt:m<8
  ·obtain⟨s,hs⟩:=E9 (56-8*m);have es:56-8*(m:Int)=(s:Int):=by omega
   have aD:s<64:=by omega
   have hd:decide (0≤(s:Int))=true:=decide_eq_true (by omega);rw[es];have HS:Hid ((P9 v).take m++[(v >>> UInt64.ofNat s).toUInt8]=(P9 v).take (m+1)):=Lib.hid (by rw[hs];exact C3e v m hlt);have ES:=Lib.hid es;have aB:(l++(P9 v).take m).length≤2199023255552:=by simp;omega
   clear hs es;obtain⟨L,hL⟩:=E9 (l++(P9 v).take m);have HL:Hid (L++[(v >>> UInt64.ofNat s).toUInt8]=l++(P9 v).take (m+1)):=Lib.hid (by rw[hL,List.append_assoc,HS.out]);rw[←hL]at O aB;clear hL HS;have O':=Lib.hid O;clear O;go_wp2_with (at_builtin;refine Gn _ w.heap.size _ L rfl _ _ rfl rfl O'.out _ _ rfl rfl (by omega) B.size ?_;intro A2 c2 w7 aG aH aE aF;generalize (L++[(v >>> UInt64.ofNat s).toUInt8]).length=L7 at *);go_roundw;case rel=>exact ⟨m+1,by omega,by rw[←ES.out];all_goals (simp<;>omega),by rw[←HL.out];exact aE,B.trans aF⟩
   case measure=>have:=ES.out;simp[intOf]<;>omega
  ·obtain rfl:m=8:=by omega
   have aA:(P9 v).take 8=P9 v:=rfl;rw[aA]at O;have O':=Lib.hid O;clear O aA;go_wp2_with fail;go_ret;exact ⟨_,rfl,O'.out,B⟩
theorem M9.up {w:World} {base:Nat} {v:Value} {l:List UInt8} (h:M9 w base v l):By w 0 w.heap.size v l:=By.less h.by_ (Nat.zero_le _)
def C9j (l x:List UInt8):List UInt8:=l++P9 (UInt64.ofNat x.length)++x
theorem B2j (l x:List UInt8):(C9j l x).length=l.length+8+x.length:=by simp[C9j];omega
theorem B7l (bv xv:Value) (l x:List UInt8) (w:World) (h:D7n w bv l) (hx:By w 0 w.heap.size xv x) (hl:l.length≤1099511627) (hxl:x.length≤1099511627776) :
 Calls Tryz.prog 111 #[bv,xv] w fun e w'=>∃u,e=.returned u∧M9 w' w.heap.size u (C9j l x)∧Below w.heap.size w w':=by
 obtain⟨A,c,rfl,h2,h3,_⟩:=hx.open_;have hw:IntKind.u64.wrap (x.length:Int)=F0 (UInt64.ofNat x.length):=by
  rw[Gb];unfold F0;simp
 have H:=Lib.hid h;have HX:=Lib.hid hx;have HE:Hid (C9j l x=(l++P9 (UInt64.ofNat x.length))++x):=Lib.hid rfl;obtain⟨n,hn⟩:=E9 (x.length);rw[←hn]at hw HE h2 hxl HX ⊢;have HN:=Lib.hid hn;clear h hx hn;go_enter Tryz.func111,Tryz.ntmps111;go_wp2_with fail;refine (Rj bv l (UInt64.ofNat n) w H.out (by omega)).mono ?_;rintro e w1 ⟨u,rfl,O1,b1⟩;have aC:=Lib.hid O1;have aD:=Lib.hid (By.up HX.out b1);have aA:(l++P9 (UInt64.ofNat n)).length≤1099511628000:=by simp;omega
 obtain⟨L,hL⟩:=E9 (l++P9 (UInt64.ofNat n));rw[←hL]at HE aA;have O2:Hid (M9 w1 w.heap.size u L):=Lib.hid (by rw[hL];exact O1);clear O1 aC hL hw;go_wp2_with (at_builtin;refine Yd _ w.heap.size _ L rfl _ _ rfl rfl O2.out _ rfl x 0 _ aD.out (by rw[←HN.out];omega) b1.size ?_;intro A2 c2 w2 aF aG aB aE aH aI);go_ret;rw[List.length_append]at aB;exact ⟨_,rfl,by rw[HE.out];exact aB,b1.trans aE⟩
theorem C3t (v:Value) (ls:List (List UInt8)) (w:World) (hp:J7 w w.heap.size v ls) (hsz:ls.flatten.length≤17592186044416) :
 Calls Tryz.prog 70 #[v] w fun e w'=>∃u,e=.returned u∧M9 w' w.heap.size u ls.flatten∧Below w.heap.size w w':=by
 have H:=Lib.hid hp;clear hp;go_enter Tryz.func70,Tryz.ntmps70;go_wp2_with fail;refine (Wj v ls w H.out hsz).mono ?_;rintro e w1 ⟨u,rfl,O1,b1⟩;have O:=Lib.hid O1;clear O1;go_wp2_with fail;go_ret;exact ⟨_,rfl,O.out,b1⟩
def Jc:List UInt8:=[119,105,116,97,110]
def Bo (tag:UInt8) (body:List UInt8):List UInt8:=C9j (Jc++[tag]) body
theorem A9u (tag:UInt8) (body:List UInt8):(Bo tag body).length=14+body.length:=by unfold Bo;rw[B2j];simp[Jc]
theorem B1b:(Jc.map v8).toArray=#[.int .u8 119,.int .u8 105,.int .u8 116,.int .u8 97,.int .u8 110]:=by kernel_rfl
theorem B4z (tag:UInt8) (xv:Value) (x:List UInt8) (w:World) (hx:By w 0 w.heap.size xv x) (hxl:x.length≤1099511627776) :
 Calls Tryz.prog 69 #[.int .u8 (n8 tag),xv] w fun e w'=>∃u,e=.returned u∧M9 w' w.heap.size u (Bo tag x)∧Below w.heap.size w w':=by
 obtain⟨C,hC⟩:∃C:Array Value,C=#[.int .u8 119,.int .u8 105,.int .u8 116,.int .u8 97,.int .u8 110]:=⟨_,rfl⟩;have aG:C.toList=Jc.map v8:=by rw[hC,←B1b]
 have aA:=Go.Lib.run_convert_bytes_const (P:=Tryz.prog) w 45 5 C 5 5 Tryz.underlying45 Tryz.underlying5;have aO:(convert 45 45 (.slice (some ⟨w.heap.size,0,none⟩) 5 5)).run Tryz.prog (w.alloc (.cells #[.int .u8 119,.int .u8 105,.int .u8 116,.int .u8 97,.int .u8 110] 5))=.ok (.slice (some ⟨w.heap.size,0,none⟩) 5 5) (w.alloc (.cells #[.int .u8 119,.int .u8 105,.int .u8 116,.int .u8 97,.int .u8 110] 5 (5,6))):=by rw[hC]at aA;exact aA
 have aH:Below w.heap.size w ((w.alloc (.cells #[.int .u8 119,.int .u8 105,.int .u8 116,.int .u8 97,.int .u8 110] 5 (5,6))).alloc (.cells #[.int .u8 (n8 tag)] 5)):=(Bh _ _).alloc (by simp) _;have aB:∀j u,(Jc.map v8)[j]?=some u→((w.alloc (.cells #[.int .u8 119,.int .u8 105,.int .u8 116,.int .u8 97,.int .u8 110] 5 (5,6))).alloc (.cells #[.int .u8 (n8 tag)] 5)).cell? ⟨w.heap.size,j,none⟩=some u:=fun j u hj=>by
  refine Go.Lib.cell?_alloc_marked _ ?_;rw[cell_of_row _ w.heap.size j #[.int .u8 119,.int .u8 105,.int .u8 116,.int .u8 97,.int .u8 110] 5 (5,6) (heap_alloc_new w _),←hC,←Array.getElem?_toList,aG];exact hj
 have aC:∀j u,([v8 tag]:List Value)[j]?=some u→((w.alloc (.cells #[.int .u8 119,.int .u8 105,.int .u8 116,.int .u8 97,.int .u8 110] 5 (5,6))).alloc (.cells #[.int .u8 (n8 tag)] 5)).cell? ⟨w.heap.size+1,j,none⟩=some u:=fun j u hj=>by
  have h1:=cell_of_row _ (w.alloc (.cells #[.int .u8 119,.int .u8 105,.int .u8 116,.int .u8 97,.int .u8 110] 5 (5,6))).heap.size j #[.int .u8 (n8 tag)] 5 (0,0) (heap_alloc_new (w.alloc (.cells #[.int .u8 119,.int .u8 105,.int .u8 116,.int .u8 97,.int .u8 110] 5 (5,6))) (.cells #[.int .u8 (n8 tag)] 5));have e:(w.alloc (.cells #[.int .u8 119,.int .u8 105,.int .u8 116,.int .u8 97,.int .u8 110] 5 (5,6))).heap.size=w.heap.size+1:=by simp
  rw[e]at h1;rw[h1];simpa [v8] using hj
 obtain⟨i0,aI,aJ,aK,aL⟩:=info_parts A7j;have K1:Hid (some (⟨w.heap.size,0,none⟩:Addr)=none→(5:Nat)=0∧(5:Nat)=0):=Lib.hid (fun h=>by cases h);have K2:Hid ((Jc.map v8).length=5*1):=Lib.hid (by decide);have K3:Hid (∀b:Addr,some (⟨w.heap.size,0,none⟩:Addr)=some b→∀j u,(Jc.map v8)[j]?=some u→((w.alloc (.cells #[.int .u8 119,.int .u8 105,.int .u8 116,.int .u8 97,.int .u8 110] 5 (5,6))).alloc (.cells #[.int .u8 (n8 tag)] 5)).cell? (b.add j)=some u):=Lib.hid (fun b hb j u hj=>by injection hb with hb;subst hb;rw[U9,Nat.zero_add];exact aB j u hj);have K5:Hid (∀j u,([v8 tag]:List Value)[j]?=some u→((w.alloc (.cells #[.int .u8 119,.int .u8 105,.int .u8 116,.int .u8 97,.int .u8 110] 5 (5,6))).alloc (.cells #[.int .u8 (n8 tag)] 5)).cell? ((⟨w.heap.size+1,0,none⟩:Addr).add j)=some u):=Lib.hid (fun j u hj=>by rw[U9,Nat.zero_add];exact aC j u hj);have K6:Hid (∀u∈([v8 tag]:List Value),u.oneCell'=true):=Lib.hid (by intro u hu;simp at hu;subst hu;rfl);have HX:=Lib.hid hx;have HI:=Lib.hid aI;have aP:=Lib.hid aJ;have aQ:=Lib.hid aK;have aR:=Lib.hid aL;have HB:=Lib.hid aH;clear hx aI aJ aK aL aB aC hC aG aA aH;go_enter Tryz.func69,Tryz.ntmps69
 go_wp2_with (at_builtin;refine wpList_append_grows _ rfl _ _ 45 rfl 5 i0 _ 1 1 Tryz.underlying45 HI.out aP.out aQ.out aR.out rfl (by decide) (some ⟨w.heap.size,0,none⟩) 5 5 (Jc.map v8) rfl K1.out K2.out K3.out ⟨w.heap.size+1,0,none⟩ 1 1 [v8 tag] rfl rfl K5.out K6.out (by decide) (by decide) (by decide) ?_;intro v' w2 aD aM);have aF:M9 w2 w.heap.size v' (Jc++[tag]):=by
  refine M9.less ?_ HB.out.size;exact aD
 have aE:Below w.heap.size w w2:=HB.out.trans ((Below.refl _ _).grown aM HB.out.size (fun k hk=>by cases hk));obtain⟨A2,c2,rfl,_,_⟩:=aF.form;have aN:Hid (Jc.length=5):=Lib.hid rfl;have HF:Hid (D7n w2 (.slice A2 (Jc++[tag]).length c2) (Jc++[tag])):=Lib.hid (.inr ⟨aF.up,by simp,by simp[aN.out]⟩);have aS:=Lib.hid (By.up HX.out aE);clear aF aD aM aO;go_wp2_with fail;refine (B7l _ _ (Jc++[tag]) x w2 HF.out aS.out (by simp[aN.out]) hxl).mono ?_;rintro e w3 ⟨u,rfl,O3,b3⟩;have aT:=Lib.hid O3;clear O3;go_wp2_with fail;go_ret;exact ⟨_,rfl,M9.less aT.out aE.size,aE.trans (b3.mono aE.size)⟩
theorem By.formE {w:World} {B:Nat} {v:Value} {l:List UInt8} (h:By w 0 B v l):∃A n c,v=.slice A n c:=by
 obtain⟨A,c,rfl,_⟩:=h.open_;exact ⟨_,_,_,rfl⟩
theorem D9d {tag:UInt8} {body:List UInt8} (h:body.length≤1000000):[Bo tag body].flatten.length≤1000000000:=by simp[A9u];omega
noncomputable def Iz (seed:List UInt8) (tag:UInt8) (body:List UInt8):List UInt8:=Sk seed [Bo tag body]
noncomputable def Hg (key:List UInt8) (tag:UInt8) (body sig:List UInt8):Bool:=Eh key sig [Bo tag body]
@[simp, go_sem] theorem Ie (seed : List UInt8) (tag : UInt8) (body : List UInt8) : (Iz seed tag body).length = 64 := Ki _ _
theorem D1n (seed:List UInt8) (tag:UInt8) (bv:Value) (body:List UInt8) (hs:seed.length=32) (w:World) (hb:By w 0 w.heap.size bv body) (hbl:body.length≤1000000):Calls Tryz.prog 43 #[A8 seed,.int .u8 (n8 tag),bv] w fun e w'=>e=.returned (A8 (Iz seed tag body))∧Below w.heap.size w w':=by
 have HB:=Lib.hid hb;clear hb;obtain⟨W0,aN⟩:=E9 (((w.alloc (Obj.cells (c8 seed).toArray 23)).alloc (Obj.cells (c8 (z8 64)).toArray 61)));have hL:W0=O8 w [(23,(c8 seed)),(61,(c8 (z8 64)))]:=aN;have B0:=Rf hL;have aA:=Um hL rfl;have aD:=Nm 1 hL rfl;clear hL;go_enter Tryz.func43,Tryz.ntmps43;go_wp2_with fail;rw[←aN];clear aN;have S1:=Kg W0;refine Jh (fun W=>Bk W (w.heap.size) 23 (c8 seed)) ?_;refine Fs (A:=?bD) [0,1,2] (aA.drew) (fun W hW=>?bB) ?bE;case bB=>have f0:=Bk.row8 (n:=32) (hW) (hs);exact Gq
 refine N8 [zb 3 10 (Bo tag body),zs 4 11 1 [(Bo tag body)],zv 5 12 (A8 (Sk seed [(Bo tag body)]))] (by kernel_rfl) (fun W hW=>(aA.drew.bl hW)) ?aE ?aF ?aG;case aE=>exact MO'
 case aF=>
  refine (Z3 ⟨?aO,(Z3 ⟨?aP,(Z3 ⟨?aQ,Zh⟩)⟩)⟩);case aO=>
   intro o ho us W hW hp Q' hQ';obtain rfl:=Option.some.inj ho;clear hp ho;rw[C1]at hQ' ⊢;dsimp only[C7,E5,List.foldl,zv,za,zs,zp,zb]at hQ' ⊢;simp only[Cy];have bW:=C2 B0 (C2 S1 hW S1.size) B0.size;have aX:=Lib.hid (HB.out.up bW);clear bW;go_wp2_with fail;refine (B4z tag _ body W aX.out (by omega)).mono ?_;rintro e W2 ⟨v2,rfl,aR,b2⟩;have aR:=Lib.hid aR;go_wp2_with fail;exact Ea (hQ' _ _ b2 aR.out.up nofun)
  case aP=>intro o ho us W hW hp Q' hQ';obtain rfl:=Option.some.inj ho;have aB:By W 0 W.heap.size (us 3) (Bo tag body):=hp 0 _ rfl (by kernel_rfl);obtain⟨A3,n3,c3,aS⟩:=aB.formE;rw[aS]at aB;have aB:=Lib.hid aB;clear hp ho;rw[C1]at hQ' ⊢;dsimp only[C7,E5,List.foldl,zv,za,zs,zp,zb]at hQ' ⊢;simp only[Cy];rw[aS]at hQ' ⊢;clear aS;go_wp2_with fail;exact Ea (hQ' _ _ (Bh _ _) ⟨_,rfl,(J7.one W _ _ (Bo tag body) aB.out).more (by simp)⟩ nofun)
  case aQ=>
   intro o ho us W hW hp Q' hQ';obtain rfl:=Option.some.inj ho;have aB:By W 0 W.heap.size (us 3) (Bo tag body):=hp 0 _ rfl (by kernel_rfl);have aB:=Lib.hid aB;obtain⟨aY,aH,aI⟩:=hp 1 _ rfl (by kernel_rfl);have aH:us 4=.slice (some ⟨aY,0,none⟩) 1 1:=aH;have aI:J7 W W.heap.size (.slice (some ⟨aY,0,none⟩) 1 1) [(Bo tag body)]:=by rw[←aH];exact aI
   have aI:=Lib.hid aI;clear hp ho;rw[C1]at hQ' ⊢;dsimp only[C7,E5,List.foldl,zv,za,zs,zp,zb]at hQ' ⊢;simp only[Cy];rw[aH]at hQ' ⊢;clear aH;have bW:=C2 B0 (C2 S1 hW S1.size) B0.size;have aX:=Lib.hid (HB.out.up bW);clear bW;go_wp2_with fail;refine (D3b seed _ [(Bo tag body)] hs W aI.out (by simp) (by simp) (D9d hbl)).mono ?_;rintro e W2 ⟨rfl,b2⟩;go_wp2_with fail;exact Ea (hQ' _ _ b2 rfl nofun)
 case aG=>
 intro us W2 b3 hg aT bC;have aZ:By W2 0 W2.heap.size (us 3) (Bo tag body):=hg _ (Ca 0 rfl);have aZ:=Lib.hid aZ;have bA:us 5=(A8 (Sk seed [(Bo tag body)])):=hg _ (Ca 2 rfl);have b4:=Q5 S1 b3;refine RG' ?_;rw[bA];clear hg aT bC bA b3 S1;have B2:=Q5 B0 b4;have aJ:=aA.bl b4;have aC:=aD.bl b4;clear b4 B0 aA aD;obtain⟨W5,aK⟩:=E9 (C4 W2 ⟨w.heap.size+1,0,none⟩ (c8 (Sk seed [(Bo tag body)])));have aU:=P8' 64 aK aC (by simp) (Ki seed [(Bo tag body)]);have aV:=U1 aK aJ (by omega);have B5:=Iu aK B2 (by omega);have aL:=C8' 64 aC (by simp);have aM:(Sk seed [(Bo tag body)]).length=64:=(Ki seed [(Bo tag body)]);refine Ci 6 fun Q' hQ'=>?_;dsimp only[C7];go_wp2_with fail;rw[←aK];refine hQ' _ _ aV ?_;clear hQ' aL aM;clear aK B2 aJ aC;refine It ?_;go_wp2_with fail;have aW:(Sk seed [(Bo tag body)]).length=64:=(Ki seed [(Bo tag body)]);refine bodyPost_ret (C5 rfl _ _ _ _ _ _ rfl aU Tryz.underlying61 rfl (by simp[Rv,aW])) rfl ⟨rfl,B5⟩
theorem C5c (key:List UInt8) (tag:UInt8) (bv:Value) (body:List UInt8) (sig:List UInt8) (hk:key.length=32) (hg:sig.length=64) (w:World) (hb:By w 0 w.heap.size bv body) (hbl:body.length≤1000000):Calls Tryz.prog 50 #[A8 key,.int .u8 (n8 tag),bv,A8 sig] w fun e w'=>e=.returned (.bool (Hg key tag body sig))∧Below w.heap.size w w':=by
 have HB:=Lib.hid hb;clear hb;obtain⟨W0,aK⟩:=E9 (((w.alloc (Obj.cells (c8 key).toArray 23)).alloc (Obj.cells (c8 sig).toArray 61)));have hL:W0=O8 w [(23,(c8 key)),(61,(c8 sig))]:=aK;have B0:=Rf hL;have aD:=Um hL rfl;have aE:=Nm 1 hL rfl;clear hL;go_enter Tryz.func50,Tryz.ntmps50;go_wp2_with fail;rw[←aK];clear aK;have S1:=Kg W0;refine Jh (fun W=>Bk W (w.heap.size) 23 (c8 key)∧Bk W (w.heap.size+1) 61 (c8 sig)) ?_;refine Fs (A:=?aX) [0,1,2,3] ⟨(aD.drew),(aE.drew)⟩ (fun W hW=>?aV) ?aY;case aV=>have f0:=Bk.row8 (n:=32) (hW.1) (hk);have f1:=Bk.row8 (n:=64) (hW.2) (hg);exact Gq
 refine N8 [zb 4 13 (Bo tag body),zs 5 14 1 [(Bo tag body)],zv 6 15 (.bool (Eh key sig [(Bo tag body)])),zv 7 8 (.bool (Eh key sig [(Bo tag body)]))] (by kernel_rfl) (fun W hW=>⟨(aD.drew.bl hW),(aE.drew.bl hW)⟩) ?aF ?aG ?aH;case aF=>exact MO'
 case aG=>
  refine (Z3 ⟨?aL,(Z3 ⟨?aM,(Z3 ⟨?aN,(Z3 ⟨?aO,Zh⟩)⟩)⟩)⟩);case aL=>
   intro o ho us W hW hp Q' hQ';obtain rfl:=Option.some.inj ho;clear hp ho;rw[C1]at hQ' ⊢;dsimp only[C7,E5,List.foldl,zv,za,zs,zp,zb]at hQ' ⊢;simp only[Cy];have bW:=C2 B0 (C2 S1 hW S1.size) B0.size;have aS:=Lib.hid (HB.out.up bW);clear bW;go_wp2_with fail;refine (B4z tag _ body W aS.out (by omega)).mono ?_;rintro e W2 ⟨v2,rfl,aP,b2⟩;have aP:=Lib.hid aP;go_wp2_with fail;exact Ea (hQ' _ _ b2 aP.out.up nofun)
  case aM=>intro o ho us W hW hp Q' hQ';obtain rfl:=Option.some.inj ho;have aA:By W 0 W.heap.size (us 4) (Bo tag body):=hp 0 _ rfl (by kernel_rfl);obtain⟨A4,n4,c4,aQ⟩:=aA.formE;rw[aQ]at aA;have aA:=Lib.hid aA;clear hp ho;rw[C1]at hQ' ⊢;dsimp only[C7,E5,List.foldl,zv,za,zs,zp,zb]at hQ' ⊢;simp only[Cy];rw[aQ]at hQ' ⊢;clear aQ;go_wp2_with fail;exact Ea (hQ' _ _ (Bh _ _) ⟨_,rfl,(J7.one W _ _ (Bo tag body) aA.out).more (by simp)⟩ nofun)
  case aN=>
   intro o ho us W hW hp Q' hQ';obtain rfl:=Option.some.inj ho;have aA:By W 0 W.heap.size (us 4) (Bo tag body):=hp 0 _ rfl (by kernel_rfl);have aA:=Lib.hid aA;obtain⟨aI,aB,aC⟩:=hp 1 _ rfl (by kernel_rfl);have aB:us 5=.slice (some ⟨aI,0,none⟩) 1 1:=aB;have aC:J7 W W.heap.size (.slice (some ⟨aI,0,none⟩) 1 1) [(Bo tag body)]:=by rw[←aB];exact aC
   have aC:=Lib.hid aC;clear hp ho;rw[C1]at hQ' ⊢;dsimp only[C7,E5,List.foldl,zv,za,zs,zp,zb]at hQ' ⊢;simp only[Cy];rw[aB]at hQ' ⊢;clear aB;have bW:=C2 B0 (C2 S1 hW S1.size) B0.size;have aS:=Lib.hid (HB.out.up bW);clear bW;go_wp2_with fail;refine (B8f key sig _ [(Bo tag body)] hk hg W aC.out (by simp) (by simp) (D9d hbl)).mono ?_;rintro e W2 ⟨rfl,b2⟩;go_wp2_with fail;exact Ea (hQ' _ _ b2 rfl nofun)
  case aO=>
   intro o ho us W hW hp Q' hQ';obtain rfl:=Option.some.inj ho;have aA:By W 0 W.heap.size (us 4) (Bo tag body):=hp 0 _ rfl (by kernel_rfl);have aA:=Lib.hid aA;obtain⟨aI,aB,aC⟩:=hp 1 _ rfl (by kernel_rfl);have aB:us 5=.slice (some ⟨aI,0,none⟩) 1 1:=aB;have aC:J7 W W.heap.size (.slice (some ⟨aI,0,none⟩) 1 1) [(Bo tag body)]:=by rw[←aB];exact aC
   have aC:=Lib.hid aC;have aJ:us 6=(.bool (Eh key sig [(Bo tag body)])):=hp 2 _ rfl (by kernel_rfl);clear hp ho;rw[C1]at hQ' ⊢;dsimp only[C7,E5,List.foldl,zv,za,zs,zp,zb]at hQ' ⊢;simp only[Cy];rw[aB,aJ]at hQ' ⊢;clear aB aJ;go_wp2_with fail;exact Ea (hQ' _ _ (Below.refl _ _) rfl nofun)
 case aH=>
 intro us W2 b3 hg aR aW;have aT:By W2 0 W2.heap.size (us 4) (Bo tag body):=hg _ (Ca 0 rfl);have aT:=Lib.hid aT;have aJ:us 6=(.bool (Eh key sig [(Bo tag body)])):=hg _ (Ca 2 rfl);have aU:us 7=(.bool (Eh key sig [(Bo tag body)])):=hg _ (Ca 3 rfl);have b4:=Q5 S1 b3;refine RG' ?_;rw[aJ,aU];clear hg aR aW aJ aU b3 S1;have B2:=Q5 B0 b4;clear b4 B0 aD aE;refine It ?_;go_wp2_with fail;go_ret;exact ⟨rfl,B2⟩
def Ik (v:Int):UInt64:=UInt64.ofNat (v % 18446744073709551616).toNat
theorem A7o (v:Int):IntKind.u64.wrap v=F0 (Ik v):=by
 unfold F0 Ik;rw[UInt64.toNat_ofNat'];simp only[IntKind.wrap,IntKind.bits,IntKind.signed,Bool.false_and,Bool.false_eq_true,if_false];omega
def Ad (ver:Int) (key:List UInt8):List UInt8:=[P9 (Ik ver),key].flatten
theorem Xz (ver:Int) {key:List UInt8} (h:key.length=32):(Ad ver key).length=40:=by simp[Ad,h]
theorem B3o (ver:Int) (key:List UInt8) (hk:key.length=32) (w:World):Calls Tryz.prog 44 #[.int .i64 ver,A8 key] w fun e w'=>∃u,e=.returned u∧By w' 0 w'.heap.size u (Ad ver key)∧Below w.heap.size w w':=by
 have aU:=A7o ver;obtain⟨W0,aJ⟩:=E9 ((w.alloc (Obj.cells (c8 key).toArray 23)));have hL:W0=O8 w [(23,(c8 key))]:=aJ;have B0:=Rf hL;have aD:=Um hL rfl;clear hL;go_enter Tryz.func44,Tryz.ntmps44;go_wp2_with fail;rw[←aJ];clear aJ;have S1:=Kg W0;refine Jh (fun W=>True) ?_;refine Fs (A:=?aX) [0,1,3] trivial (fun W hW=>?aV) ?aY;case aV=>exact Gq
 refine N8 [zb 2 7 (P9 (Ik ver)),zs 4 9 2 [(P9 (Ik ver)),key],zb 5 10 (List.flatten [(P9 (Ik ver)),key]),zb 6 4 (List.flatten [(P9 (Ik ver)),key])] (by kernel_rfl) (fun W hW=>trivial) ?aE ?aF ?aG;case aE=>exact MO'
 case aF=>
  refine (Z3 ⟨?aK,(Z3 ⟨?aL,(Z3 ⟨?aM,(Z3 ⟨?aN,Zh⟩)⟩)⟩)⟩);case aK=>
   intro o ho us W hW hp Q' hQ';obtain rfl:=Option.some.inj ho;clear hp ho;rw[C1]at hQ' ⊢;dsimp only[C7,E5,List.foldl,zv,za,zs,zp,zb]at hQ' ⊢;simp only[Cy];go_wp2_with fail;refine (Rj (.slice none 0 0) [] (Ik ver) W (.inl ⟨rfl,rfl⟩) (by simp)).mono ?_;rintro e W2 ⟨v2,rfl,aA,b2⟩;have aA:=Lib.hid aA;go_wp2_with fail;exact Ea (hQ' _ _ b2 aA.out.up nofun)
  case aL=>intro o ho us W hW hp Q' hQ';obtain rfl:=Option.some.inj ho;have aA:By W 0 W.heap.size (us 2) (P9 (Ik ver)):=hp 0 _ rfl (by kernel_rfl);obtain⟨A2,n2,c2,aO⟩:=aA.formE;rw[aO]at aA;have aA:=Lib.hid aA;clear hp ho;rw[C1]at hQ' ⊢;dsimp only[C7,E5,List.foldl,zv,za,zs,zp,zb]at hQ' ⊢;simp only[Cy];rw[aO]at hQ' ⊢;clear aO;have aH:=aD.drew.bl hW;go_wp2_with fail;exact Ea (hQ' _ _ (Bh _ _) ⟨_,rfl,(J7.two W _ _ _ (P9 (Ik ver)) key aA.out (Bk.byAll (aH) hk (by decide))).more (by simp)⟩ nofun)
  case aM=>
   intro o ho us W hW hp Q' hQ';obtain rfl:=Option.some.inj ho;have aA:By W 0 W.heap.size (us 2) (P9 (Ik ver)):=hp 0 _ rfl (by kernel_rfl);have aA:=Lib.hid aA;obtain⟨aI,aB,aC⟩:=hp 1 _ rfl (by kernel_rfl);have aB:us 4=.slice (some ⟨aI,0,none⟩) 2 2:=aB;have aC:J7 W W.heap.size (.slice (some ⟨aI,0,none⟩) 2 2) [(P9 (Ik ver)),key]:=by rw[←aB];exact aC
   have aC:=Lib.hid aC;clear hp ho;rw[C1]at hQ' ⊢;dsimp only[C7,E5,List.foldl,zv,za,zs,zp,zb]at hQ' ⊢;simp only[Cy];rw[aB]at hQ' ⊢;clear aB;go_wp2_with fail;refine (C3t _ [(P9 (Ik ver)),key] W aC.out (by simp;omega)).mono ?_;rintro e W2 ⟨v2,rfl,aA,b2⟩;have aA:=Lib.hid aA;go_wp2_with fail;exact Ea (hQ' _ _ b2 aA.out.up nofun)
  case aN=>
   intro o ho us W hW hp Q' hQ';obtain rfl:=Option.some.inj ho;have aA:By W 0 W.heap.size (us 2) (P9 (Ik ver)):=hp 0 _ rfl (by kernel_rfl);have aA:=Lib.hid aA;obtain⟨aI,aB,aC⟩:=hp 1 _ rfl (by kernel_rfl);have aB:us 4=.slice (some ⟨aI,0,none⟩) 2 2:=aB;have aC:J7 W W.heap.size (.slice (some ⟨aI,0,none⟩) 2 2) [(P9 (Ik ver)),key]:=by rw[←aB];exact aC
   have aC:=Lib.hid aC;have aP:By W 0 W.heap.size (us 5) (List.flatten [(P9 (Ik ver)),key]):=hp 2 _ rfl (by kernel_rfl);have aP:=Lib.hid aP;clear hp ho;rw[C1]at hQ' ⊢;dsimp only[C7,E5,List.foldl,zv,za,zs,zp,zb]at hQ' ⊢;simp only[Cy];rw[aB]at hQ' ⊢;clear aB;go_wp2_with fail;exact Ea (hQ' _ _ (Below.refl _ _) aP.out nofun)
 case aG=>
 intro us W2 b3 hg aQ aW;have aS:By W2 0 W2.heap.size (us 2) (P9 (Ik ver)):=hg _ (Ca 0 rfl);have aS:=Lib.hid aS;have aT:By W2 0 W2.heap.size (us 5) (List.flatten [(P9 (Ik ver)),key]):=hg _ (Ca 2 rfl);have aT:=Lib.hid aT;have aR:By W2 0 W2.heap.size (us 6) (List.flatten [(P9 (Ik ver)),key]):=hg _ (Ca 3 rfl);have aR:=Lib.hid aR;have b4:=Q5 S1 b3;refine RG' ?_;clear hg aQ aW b3 S1;have B2:=Q5 B0 b4;clear b4 B0 aD;refine It ?_;go_wp2_with fail;go_ret;exact ⟨_,rfl,aR.out,B2⟩
section
structure UV where
 id:List UInt8
 ver:Int
 key:List UInt8
 sig:List UInt8
structure UV.Ok (u : UV) : Prop where
 id:u.id.length=32
 key:u.key.length=32
 sig:u.sig.length=64
def Ch (u:UV):List Value:=c8 u.id++(.int .i64 u.ver::(c8 u.key++c8 u.sig))
def UV.length (u:UV):Nat:=(Ch u).length
def Ws (u:UV):Value:=.agg (Ch u).toArray
def Qj (_:Nat):UV:=⟨z8 32,0,z8 32,z8 64⟩
theorem UV.Ok.len {u:UV} (h:u.Ok):u.length=129:=by unfold UV.length Ch;simp[h.id,h.key,h.sig]
theorem Kd (n:Nat):(Qj n).Ok:=⟨by simp[Qj],by simp[Qj],by simp[Qj]⟩
theorem Fa (u:UV):(Ch u).length=u.length:=rfl
theorem Px (u:UV):∀x∈Ch u,x.oneCell'=true:=by
 intro x hx;simp only[Ch,List.mem_append,List.mem_cons]at hx;rcases hx with hx | rfl | hx | hx
 ·obtain⟨y,_,rfl⟩:=List.mem_map.1 hx;rfl
 ·rfl
 ·obtain⟨y,_,rfl⟩:=List.mem_map.1 hx;rfl
 ·obtain⟨y,_,rfl⟩:=List.mem_map.1 hx;rfl
theorem B0u:(Tryz.prog.info? 63).map (·.size)=some 129:=by kernel_rfl
theorem C1v:((Tryz.prog.info? 63).bind (·.zero))=some (Ws (Qj 129)):=by kernel_rfl
theorem Yx:Tryz.prog.underlying 63=some (.struct (S4 Tryz.prog 63)):=by kernel_rfl
@[go_sem] theorem F7v (u : UV) : Value.agg (Ch u).toArray = Ws u := rfl
@[go_sem] theorem F0w (t : TypeId) (w : World) (raw : Result Next) (u : UV) : Xe t w raw (Ws u) = .ok (.value (.pointer (some ⟨w.heap.size, 0, none⟩))) (w.alloc (.cells (Ch u).toArray t)) := rfl
@[go_sem] theorem E3b (n : Nat) (w : World) (raw : Result Next) (a : Addr) (u : UV) : Cj n w raw (.pointer (some a)) (Ws u) =
 if u.length=n∧P7 w a n=true then .ok .skip (C4 w a (Ch u)) else raw:=by
 have h1:((Ch u).toArray.all (·.oneCell'))=true:=by rw[Array.all_eq_true'];intro x hx;exact Px u x (by simpa using hx)
 unfold Ws;rw[Vv,h1];simp only[List.size_toArray,true_and,Fa]
section
variable (w : World) (ρ : Operand → Value) (dst : Option Tmp) (ty : TypeId) (pos : String) (after : Array Edge) (guard : Option (Nat × Bool))
@[go_sem ↓ high] theorem F4e:RL' 63 129:=LL' Yx B0u
@[go_sem ↓ high] theorem E9l:RS' 63 129:=SS' B0u
@[go_sem ↓ high] theorem F0f:RA' 63 (Ch (Qj 129)).toArray:=fun w ρ dst ty pos after guard=>O9 w ρ dst ty pos after guard 63 (Ws (Qj 129)) C1v
@[go_sem ↓ high] theorem F8c:RB' 63:=BX' _
end
theorem C5l (w:World):(Fz (S4 Tryz.prog 63)).run Tryz.prog w=.ok #[(0,32),(32,1),(33,32),(65,64)] w:=by kernel_rfl
noncomputable def D7q (w:World) (raw:Result Next) (a b c d:Value):Result Next:=match Dq a,b,Dq c,Dq d with
 | some i,.int .i64 v,some k,some s=>if i.length=32∧k.length=32∧s.length=64 then .ok (.value (Ws ⟨i,v,k,s⟩)) w else raw
 | _,_,_,_=>raw
@[go_sem] theorem F3y (w : World) (raw : Result Next) (i k s : List UInt8) (v : Int) (hi : i.length = 32) (hk : k.length = 32) (hs : s.length = 64) : D7q w raw (A8 i) (.int .i64 v) (A8 k) (A8 s) = .ok (.value (Ws ⟨i, v, k, s⟩)) w := by
 unfold D7q;simp only[Dm];simp[hi,hk,hs]
theorem E4m (i k s:List UInt8) (v:Int) (hi:i.length=32) (hk:k.length=32) (hs:s.length=64) (w:World):(Instr.build 63 #[(0,A8 i),(1,.int .i64 v),(2,A8 k),(3,A8 s)]).run Tryz.prog w=.ok (Ws ⟨i,v,k,s⟩) w:=by
 have aA:(Ws (Qj 129)).cells.toList=c8 (z8 32)++(.int .i64 0::(c8 (z8 32)++c8 (z8 64))):=rfl;have h1:=U4 Yx C1v w (C5l w) #[(0,A8 i),(1,.int .i64 v),(2,A8 k),(3,A8 s)] [(0,c8 i),(32,[.int .i64 v]),(33,c8 k),(65,c8 s)] (by
  rw[aA];exact ⟨by simp[hi],rfl,by simp[hi],by simp,rfl,by simp,by simp[hk],rfl,by simp[hk],by simp[hs],rfl,by simp[hs],trivial⟩)
 refine h1.trans (congrArg (fun (cs:List Value)=>Result.ok (Value.agg cs.toArray) w) ?_);rw[aA];simp[Hd,Bg,hi,hk,hs,List.take_append,List.drop_append,List.drop_eq_nil_of_le,List.take_of_length_le,Ch,c8]
@[go_sem ↓ high] theorem E8w (w : World) (ρ : Operand → Value) (dst : Option Tmp) (ty : TypeId) (pos : String) (after : Array Edge) (guard : Option (Nat × Bool)) (x y z t : Operand) :
 (execOp ρ { dst,op:=.build 63 #[(0,x),(1,y),(2,z),(3,t)],type:=ty,pos,after,guard }).run Tryz.prog w=D7q w (L3 Tryz.prog ρ { dst,op:=.build 63 #[(0,x),(1,y),(2,z),(3,t)],type:=ty,pos,after,guard } w) (ρ x) (ρ y) (ρ z) (ρ t):=by
 generalize h0:ρ x=a;generalize h1:ρ y=b;generalize h2:ρ z=c;generalize h3:ρ t=d;unfold D7q;split
 ·rename_i i v k s g0 g1 g2
  replace g0:=U8 g0;replace g1:=U8 g1;replace g2:=U8 g2;split
  ·rename_i h
   refine N9 w ρ dst ty pos after guard _ _ _ ?_;simp only[List.map_toArray,List.map_cons,List.map_nil,h0,h1,h2,h3,g0,g1,g2];exact E4m i k s v h.1 h.2.1 h.2.2 w
  ·rfl
 ·rfl
section
variable {w : World} {g : Nat} {t : TypeId} {u m : UV} {n : Nat}
theorem Bk.rowvc (K:Bk w g t (Ch u)) (hu:u.length=n):C8 w ⟨g,0,none⟩ n=some (Ch u):=by have:=K.rows;rwa [Fa,hu]at this
theorem Bk.canvc (K:Bk w g t (Ch u)) (hu:u.length=n):P7 w ⟨g,0,none⟩ n=true:=K.can (by rw[Fa,hu];omega)
theorem Bk.putvc (K:Bk w g t (Ch u)) (hu:u.length=n) (hm:m.length=n):Bk (C4 w ⟨g,0,none⟩ (Ch m)) g t (Ch m):=K.puts (by rw[Fa,Fa,hu,hm])
theorem UV.loadid (K:Bk w g t (Ch u)) (h:u.Ok):C8 w ⟨g,0,none⟩ 32=some (c8 u.id):=by
 rw[K.rowMid 0 32 (by rw[Fa,h.len];decide)];simp[Ch,h.id]
theorem UV.loadver (K:Bk w g t (Ch u)) (h:u.Ok):w.cell? ⟨g,32,none⟩=some (.int .i64 u.ver):=by
 refine K.at_ ?_;simp[Ch,h.id]
theorem UV.loadkey (K:Bk w g t (Ch u)) (h:u.Ok):C8 w ⟨g,33,none⟩ 32=some (c8 u.key):=by
 rw[K.rowMid 33 32 (by rw[Fa,h.len];decide)];simp[Ch,h.id,h.key,List.drop_append,List.drop_eq_nil_of_le]
theorem UV.loadsig (K:Bk w g t (Ch u)) (h:u.Ok):C8 w ⟨g,65,none⟩ 64=some (c8 u.sig):=by
 rw[K.rowMid 65 64 (by rw[Fa,h.len];decide)];simp[Ch,h.id,h.key,h.sig,List.drop_append,List.drop_eq_nil_of_le,List.take_of_length_le]
end
end
end Go.Proofs.YtlegpkdighoflaaGreat
