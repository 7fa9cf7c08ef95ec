/- A part of the proof of DirBuilds. -/
import Derived.Test.YtlegpkdighoflaaGreatSaw
set_option linter.unusedVariables false
set_option linter.unusedSimpArgs false
set_option maxRecDepth 100000
set_option maxHeartbeats 40000000
namespace Go.Proofs.YtlegpkdighoflaaGreat
open Go Go.RowKit Sh
noncomputable def vfK (key sig:List UInt8) (ps:List (List UInt8)):List UInt64:=E3 (D9 sig 0::key::ps)
noncomputable def vfH (key sig:List UInt8) (ps:List (List UInt8)):List UInt8:=C8 (Ih (D8 (Ad (D9 sig 32))) (Hy (Ah key)) (D8 (vfK key sig ps)))
noncomputable def Cy (key sig:List UInt8) (ps:List (List UInt8)):Bool:=Fq key&&(!Ob (Ah key)&&(Px (D9 sig 32)&&vfH key sig ps==D9 sig 0))
theorem D0z {key:List UInt8} (h:Fq key=false):Yb key=50:=(Yl h).2
theorem C5n {key:List UInt8} (h:Fq key=true):Yb key=0:=if_pos h
theorem D7x {key sig:List UInt8} {ps:List (List UInt8)} (h:Fq key=false):Cy key sig ps=false:=by unfold Cy;rw[h,Bool.false_and]
theorem D7n {key sig:List UInt8} {ps:List (List UInt8)} (h:Ob (Ah key)=true):Cy key sig ps=false:=by unfold Cy;rw[h];simp
theorem D6n {key sig:List UInt8} {ps:List (List UInt8)} (h:Px (D9 sig 32)=false):Cy key sig ps=false:=by unfold Cy;rw[h];simp
theorem D6t {key sig:List UInt8} {ps:List (List UInt8)} (h1:Fq key=true) (h2:Ob (Ah key)=false) (h3:Px (D9 sig 32)=true):Cy key sig ps=(vfH key sig ps==D9 sig 0):=by unfold Cy;rw[h1,h2,h3,Bool.not_false,Bool.true_and,Bool.true_and,Bool.true_and]
theorem B5i (key sig:List UInt8) (ps:List (List UInt8)):(vfH key sig ps).length=32:=K9 _
theorem B4b (key sig:List UInt8) (vp:Value) (ps:List (List UInt8)) (hk:key.length=32) (hg:sig.length=64) (w:World) (hp:L6 w w.heap.size vp ps) (hp0:0<ps.length) (hpl:ps.length≤1000) (hpf:ps.flatten.length≤1000000000):Calls Tryz.prog 73 #[A8 key,A8 sig,vp] w fun e w'=>e=.returned (.bool (Cy key sig ps))∧Below w.heap.size w w':=by
 have HP:=Lib.hid hp;clear hp;have jD:=Ht hg 0 (by decide);have jE:=Ht hg 32 (by decide);have jR:=B5i key sig ps;obtain⟨W0,gO⟩:∃z,z=((w.alloc (Obj.cells (c8 key).toArray 23)).alloc (Obj.cells (c8 sig).toArray 61)):=⟨_,rfl⟩;have hL:W0=Q5 w [(23,(c8 key)),(61,(c8 sig))]:=gO;have B0:Below w.heap.size w W0:=by rw[hL];exact J9 _ _
 have cS:Bk W0 (w.heap.size) 23 (c8 key):=by rw[hL];exact F9 _ w 0 _ _ rfl
 have dY:Bk W0 (w.heap.size+1) 61 (c8 sig):=by rw[hL];exact F9 _ w 1 _ _ rfl
 have z0:w.heap.size+2≤W0.heap.size:=by rw[hL,H9];simp
 have jF:W0.heap.size=w.heap.size+2:=by rw[hL,H9];rfl
 clear hL;have f1:=Bk.row8 (n:=32) (cS) (hk);rw[gO]at f1;go_enter Tryz.func73,Tryz.ntmps73;go_wp2_with fail;rw[←gO];clear f1;clear gO jF;refine (B4z key hk W0).mono ?_;rintro e W2 ⟨rfl,b3⟩;have B2:=C0 B0 b3 B0.size;have z2:=Nat.le_trans z0 b3.size;have cT:=cS.below b3 cS.lt;have cU:=dY.below b3 dY.lt;clear b3 B0 z0 cS dY;cases hok:Fq key;case false=>
  have HV:=Lib.hid (D7x (sig:=sig) (ps:=ps) hok);rw[D0z hok];clear hok;obtain⟨V4,cX⟩:∃z,z=W2.alloc (Obj.cells (C7 (J8 20)).toArray 140):=⟨_,rfl⟩;have fP:W2.heap.size=W2.heap.size:=rfl;have bV:Bk V4 (W2.heap.size) 140 (C7 (J8 20)):=by rw[cX,←fP];exact Bk.new W2 _ _
  have cY:Bk V4 (w.heap.size) 23 (c8 key):=by rw[cX];exact cT.alloc _
  have cZ:Bk V4 (w.heap.size+1) 61 (c8 sig):=by rw[cX];exact cU.alloc _
  have iI:Below w.heap.size w V4:=by rw[cX];exact B2.alloc B2.size _
  have aE:w.heap.size<W2.heap.size:=by rw[←fP];exact cT.lt
  have aF:w.heap.size+1<W2.heap.size:=by rw[←fP];exact cU.lt
  have bX:w.heap.size+2≤W2.heap.size:=by rw[←fP];exact Nat.le_trans z2 (Nat.le_refl _)
  clear fP;obtain⟨V5,dZ⟩:∃z,z=C9 V4 ⟨W2.heap.size,0,none⟩ (C7 (Ah key).row):=⟨_,rfl⟩;have fQ:Bk V5 (W2.heap.size) 140 (C7 (Ah key).row):=by rw[dZ];exact Bk.put64 (bV) ((show (J8 20).length=20 from by simp)) ((Iq key).row)
  have iJ:Bk V5 (w.heap.size) 23 (c8 key):=by rw[dZ];exact cY.putFar (p:=⟨W2.heap.size,0,none⟩) (by show w.heap.size≠W2.heap.size;omega) _
  have iK:Bk V5 (w.heap.size+1) 61 (c8 sig):=by rw[dZ];exact cZ.putFar (p:=⟨W2.heap.size,0,none⟩) (by show w.heap.size+1≠W2.heap.size;omega) _
  have jG:Below w.heap.size w V5:=by rw[dZ];exact C1 iI (by show w.heap.size≤W2.heap.size;omega) _
  have dC:E8 V4 ⟨W2.heap.size,0,none⟩ 20=true:=Bk.can64 (bV) ((show (J8 20).length=20 from by simp));rw[cX]at dC;have aY:(Ah key).row.length=20:=(Iq key).row;go_wp2_with fail;rw[←cX,←dZ];clear dC aY;obtain⟨p6,gR⟩:∃g,g=W2.heap.size:=⟨_,rfl⟩;rw[←gR]at fQ aE aF bX;try rw[←gR]
  have jS:w.heap.size+2≤V5.heap.size:=by have hz:=z2;rw[dZ,cX];first | (simp;omega) | (simp[World.setCell];omega)
  clear cX dZ gR z2 cY cZ bV iI;go_ret;exact ⟨by rw[HV.out];rfl,jG⟩
 case true=>
  rw[C5n hok];have HK:=Lib.hid hok;clear hok;obtain⟨V7,cV⟩:∃z,z=W2.alloc (Obj.cells (C7 (J8 20)).toArray 140):=⟨_,rfl⟩;have fR:W2.heap.size=W2.heap.size:=rfl;have bY:Bk V7 (W2.heap.size) 140 (C7 (J8 20)):=by rw[cV,←fR];exact Bk.new W2 _ _
  have dD:Bk V7 (w.heap.size) 23 (c8 key):=by rw[cV];exact cT.alloc _
  have dF:Bk V7 (w.heap.size+1) 61 (c8 sig):=by rw[cV];exact cU.alloc _
  have iL:Below w.heap.size w V7:=by rw[cV];exact B2.alloc B2.size _
  have aE:w.heap.size<W2.heap.size:=by rw[←fR];exact cT.lt
  have aF:w.heap.size+1<W2.heap.size:=by rw[←fR];exact cU.lt
  have bX:w.heap.size+2≤W2.heap.size:=by rw[←fR];exact Nat.le_trans z2 (Nat.le_refl _)
  clear fR;obtain⟨V8,dG⟩:∃z,z=C9 V7 ⟨W2.heap.size,0,none⟩ (C7 (Ah key).row):=⟨_,rfl⟩;have aV:Bk V8 (W2.heap.size) 140 (C7 (Ah key).row):=by rw[dG];exact Bk.put64 (bY) ((show (J8 20).length=20 from by simp)) ((Iq key).row)
  have bZ:Bk V8 (w.heap.size) 23 (c8 key):=by rw[dG];exact dD.putFar (p:=⟨W2.heap.size,0,none⟩) (by show w.heap.size≠W2.heap.size;omega) _
  have cB:Bk V8 (w.heap.size+1) 61 (c8 sig):=by rw[dG];exact dF.putFar (p:=⟨W2.heap.size,0,none⟩) (by show w.heap.size+1≠W2.heap.size;omega) _
  have gS:Below w.heap.size w V8:=by rw[dG];exact C1 iL (by show w.heap.size≤W2.heap.size;omega) _
  have dI:E8 V7 ⟨W2.heap.size,0,none⟩ 20=true:=Bk.can64 (bY) ((show (J8 20).length=20 from by simp));rw[cV]at dI;have f9:=Bk.row64 (n:=20) (aV) ((Iq key).row);rw[dG,cV]at f9;have aY:(Ah key).row.length=20:=(Iq key).row;go_wp2_with fail;rw[←cV,←dG];clear dI f9 aY;obtain⟨aZ,eC⟩:∃g,g=W2.heap.size:=⟨_,rfl⟩;rw[←eC]at aV aE aF bX;try rw[←eC]
  have iM:w.heap.size+2≤V8.heap.size:=by have hz:=z2;rw[dG,cV];first | (simp;omega) | (simp[World.setCell];omega)
  clear cV dG eC z2 dD dF bY iL;refine (B5v (Ah key) (Iq key) V8).mono ?_;rintro e jH ⟨rfl,fC⟩;have gP:=C0 gS fC gS.size;have iN:=Nat.le_trans iM fC.size;have cC:=bZ.below fC bZ.lt;have bG:=cB.below fC cB.lt;have cD:=aV.below fC aV.lt;clear fC gS iM bZ cB aV;cases hsm:Ob (Ah key);case false=>
   have HS:=Lib.hid hsm;clear hsm;have jI:=Bk.xyAt (bG) hg 32 (by decide);go_wp2_with fail;clear jI;refine (C7v (D9 sig 32) (Ht hg 32 (by decide)) jH).mono ?_;rintro e aA ⟨rfl,fD⟩;have gQ:=C0 gP fD gP.size;have fE:=Nat.le_trans iN fD.size;have bH:=cC.below fD cC.lt;have bI:=bG.below fD bG.lt;have bJ:=cD.below fD cD.lt;clear fD gP iN cC bG cD;cases hsn:Px (D9 sig 32);case false=>
    have HV:=Lib.hid (D6n (key:=key) (ps:=ps) hsn);clear hsn;obtain⟨eD,aP⟩:∃z,z=aA.alloc (Obj.cells (C7 (J8 4)).toArray 184):=⟨_,rfl⟩;have bR:aA.heap.size=aA.heap.size:=rfl;have bB:Bk eD (aA.heap.size) 184 (C7 (J8 4)):=by rw[aP,←bR];exact Bk.new aA _ _
    have cE:Bk eD (w.heap.size) 23 (c8 key):=by rw[aP];exact bH.alloc _
    have cF:Bk eD (w.heap.size+1) 61 (c8 sig):=by rw[aP];exact bI.alloc _
    have cG:Bk eD (aZ) 140 (C7 (Ah key).row):=by rw[aP];exact bJ.alloc _
    have fS:Below w.heap.size w eD:=by rw[aP];exact gQ.alloc gQ.size _
    have aG:w.heap.size<aA.heap.size:=by rw[←bR];exact bH.lt
    have aH:w.heap.size+1<aA.heap.size:=by rw[←bR];exact bI.lt
    have aI:aZ<aA.heap.size:=by rw[←bR];exact bJ.lt
    have cH:w.heap.size+2≤aA.heap.size:=by rw[←bR];exact Nat.le_trans fE (Nat.le_refl _)
    clear bR;obtain⟨fF,aW⟩:∃z,z=C9 eD ⟨aA.heap.size,0,none⟩ (C7 (Ad (D9 sig 32))):=⟨_,rfl⟩;have eE:Bk fF (aA.heap.size) 184 (C7 (Ad (D9 sig 32))):=by rw[aW];exact Bk.put64 (bB) ((show (J8 4).length=4 from by simp)) ((Ej (D9 sig 32)))
    have gT:Bk fF (w.heap.size) 23 (c8 key):=by rw[aW];exact cE.putFar (p:=⟨aA.heap.size,0,none⟩) (by show w.heap.size≠aA.heap.size;omega) _
    have gU:Bk fF (w.heap.size+1) 61 (c8 sig):=by rw[aW];exact cF.putFar (p:=⟨aA.heap.size,0,none⟩) (by show w.heap.size+1≠aA.heap.size;omega) _
    have gV:Bk fF (aZ) 140 (C7 (Ah key).row):=by rw[aW];exact cG.putFar (p:=⟨aA.heap.size,0,none⟩) (by show aZ≠aA.heap.size;omega) _
    have gW:Below w.heap.size w fF:=by rw[aW];exact C1 fS (by show w.heap.size≤aA.heap.size;omega) _
    have cI:E8 eD ⟨aA.heap.size,0,none⟩ 4=true:=Bk.can64 (bB) ((show (J8 4).length=4 from by simp));rw[aP]at cI;have aY:(Ad (D9 sig 32)).length=4:=(Ej (D9 sig 32));go_wp2_with fail;rw[←aP,←aW];clear cI aY;obtain⟨jT,eF⟩:∃g,g=aA.heap.size:=⟨_,rfl⟩;rw[←eF]at eE aG aH aI cH;try rw[←eF]
    have jJ:w.heap.size+2≤fF.heap.size:=by have hz:=fE;rw[aW,aP];first | (simp;omega) | (simp[World.setCell];omega)
    clear aP aW eF fE cE cF cG bB fS;go_ret;exact ⟨by rw[HV.out];rfl,gW⟩
   case true=>
    have HV:=Lib.hid (D6t (ps:=ps) HK.out HS.out hsn);clear hsn;obtain⟨eG,aQ⟩:∃z,z=aA.alloc (Obj.cells (C7 (J8 4)).toArray 184):=⟨_,rfl⟩;have bS:aA.heap.size=aA.heap.size:=rfl;have bC:Bk eG (aA.heap.size) 184 (C7 (J8 4)):=by rw[aQ,←bS];exact Bk.new aA _ _
    have cJ:Bk eG (w.heap.size) 23 (c8 key):=by rw[aQ];exact bH.alloc _
    have cK:Bk eG (w.heap.size+1) 61 (c8 sig):=by rw[aQ];exact bI.alloc _
    have cL:Bk eG (aZ) 140 (C7 (Ah key).row):=by rw[aQ];exact bJ.alloc _
    have fT:Below w.heap.size w eG:=by rw[aQ];exact gQ.alloc gQ.size _
    have aG:w.heap.size<aA.heap.size:=by rw[←bS];exact bH.lt
    have aH:w.heap.size+1<aA.heap.size:=by rw[←bS];exact bI.lt
    have aI:aZ<aA.heap.size:=by rw[←bS];exact bJ.lt
    have cH:w.heap.size+2≤aA.heap.size:=by rw[←bS];exact Nat.le_trans fE (Nat.le_refl _)
    clear bS;obtain⟨cW,aX⟩:∃z,z=C9 eG ⟨aA.heap.size,0,none⟩ (C7 (Ad (D9 sig 32))):=⟨_,rfl⟩;have aJ:Bk cW (aA.heap.size) 184 (C7 (Ad (D9 sig 32))):=by rw[aX];exact Bk.put64 (bC) ((show (J8 4).length=4 from by simp)) ((Ej (D9 sig 32)))
    have aC:Bk cW (w.heap.size) 23 (c8 key):=by rw[aX];exact cJ.putFar (p:=⟨aA.heap.size,0,none⟩) (by show w.heap.size≠aA.heap.size;omega) _
    have aD:Bk cW (w.heap.size+1) 61 (c8 sig):=by rw[aX];exact cK.putFar (p:=⟨aA.heap.size,0,none⟩) (by show w.heap.size+1≠aA.heap.size;omega) _
    have aR:Bk cW (aZ) 140 (C7 (Ah key).row):=by rw[aX];exact cL.putFar (p:=⟨aA.heap.size,0,none⟩) (by show aZ≠aA.heap.size;omega) _
    have bD:Below w.heap.size w cW:=by rw[aX];exact C1 fT (by show w.heap.size≤aA.heap.size;omega) _
    have cM:E8 eG ⟨aA.heap.size,0,none⟩ 4=true:=Bk.can64 (bC) ((show (J8 4).length=4 from by simp));rw[aQ]at cM;have aY:(Ad (D9 sig 32)).length=4:=(Ej (D9 sig 32));go_wp2_with fail;rw[←aQ,←aX];clear cM aY;obtain⟨eH,eI⟩:∃g,g=aA.heap.size:=⟨_,rfl⟩;rw[←eI]at aJ aG aH aI cH;try rw[←eI]
    have eJ:w.heap.size+2≤cW.heap.size:=by have hz:=fE;rw[aX,aQ];first | (simp;omega) | (simp[World.setCell];omega)
    clear aQ aX eI fE cJ cK cL bC fT;have dJ:Below cW.heap.size cW cW.drew:=(Below.refl _ _).drew;refine F2 (fun W=>True) (by kernel_rfl) ?_;refine C6 (A:=?jK) [0,1,2] (by kernel_rfl) (by kernel_rfl) rfl (by kernel_rfl) (by kernel_rfl) trivial (h:=fun W hW=>?gX) (hr:=?jL);case gX=>
     simp only[pick,List.getElem?_cons_zero,List.getElem?_cons_succ];repeat (go_big_quiet_step (fail))
     refine wpQuiet_nil ?_;rfl
    refine N9 [zs 3 36 2 [(D9 sig 0),key],zp 4 37 ((D9 sig 0)::key::ps),zv 5 38 (J7 (E3 ((D9 sig 0)::key::ps))),za 6 11 184 (C7 (J8 4))] (by kernel_rfl) (fun W hW=>trivial) ?eK ?eL ?eM;case eK=>exact (List.forall_mem_cons.2 ⟨zs_mono _ _ _ _,(List.forall_mem_cons.2 ⟨zp_mono _ _ _,(List.forall_mem_cons.2 ⟨H7 _ _ _,(List.forall_mem_cons.2 ⟨Ir _ _ _ _,(fun _ h=>by cases h)⟩)⟩)⟩)⟩)
    case eL=>
     refine (List.forall_mem_cons.2 ⟨?fU,(List.forall_mem_cons.2 ⟨?fV,(List.forall_mem_cons.2 ⟨?fW,(List.forall_mem_cons.2 ⟨?fX,(fun _ h=>by cases h)⟩)⟩)⟩)⟩);case fU=>
      intro o ho us W hW hp Q' hQ';obtain rfl:=Option.some.inj ho;clear hp ho;rw[C2]at hQ' ⊢;dsimp only[E4,E0,List.foldl,zv,za,zs,zp,zb]at hQ' ⊢;simp only[List.set_cons_succ,List.set_cons_zero];have fY:=aD.drew.below hW aD.drew.lt;have fZ:=aC.drew.below hW aC.drew.lt;go_wp2_with fail;exact C5 (hQ' _ _ ((Below.refl _ _).alloc (Nat.le_refl _) _) ⟨_,rfl,(L6.two W _ _ _ (D9 sig 0) key (Bk.by (fY) 0 32 64 (by have hh:=hg;omega) (by decide) (by decide) rfl) (Bk.byAll (fZ) hk (by decide))).more (by simp)⟩ (fun h=>by cases h)) (by kernel_rfl)
     case fV=>
      intro o ho us W hW hp Q' hQ';obtain rfl:=Option.some.inj ho;obtain⟨iO,bK,gF⟩:=hp 0 _ rfl (by kernel_rfl);have bK:us 3=.slice (some ⟨iO,0,none⟩) 2 2:=bK;have gF:L6 W W.heap.size (.slice (some ⟨iO,0,none⟩) 2 2) [(D9 sig 0),key]:=by rw[←bK];exact gF
      have gF:=Lib.hid gF;clear hp ho;rw[C2]at hQ' ⊢;dsimp only[E4,E0,List.foldl,zv,za,zs,zp,zb]at hQ' ⊢;simp only[List.set_cons_succ,List.set_cons_zero];rw[bK]at hQ' ⊢;clear bK;have bW:=C0 bD (C0 dJ hW dJ.size) bD.size;have eN:=Lib.hid (HP.out.up bW);clear bW;go_wp2_with fail;refine (A0s _ _ _ _ [(D9 sig 0),key] ps W gF.out eN.out hp0 (by simp;omega)).mono ?_;rintro e W2 ⟨v2,rfl,gY,b2⟩;have gY:=Lib.hid gY;go_wp2_with fail;exact C5 (hQ' _ _ b2 gY.out (fun h=>by cases h)) (by kernel_rfl)
     case fW=>intro o ho us W hW hp Q' hQ';obtain rfl:=Option.some.inj ho;have gZ:L6 W W.heap.size (us 4) ((D9 sig 0)::key::ps):=hp 1 _ rfl (by kernel_rfl);have gZ:=Lib.hid gZ;clear hp ho;rw[C2]at hQ' ⊢;dsimp only[E4,E0,List.foldl,zv,za,zs,zp,zb]at hQ' ⊢;simp only[List.set_cons_succ,List.set_cons_zero];have bW:=C0 bD (C0 dJ hW dJ.size) bD.size;have eN:=Lib.hid (HP.out.up bW);clear bW;go_wp2_with fail;refine (Ql _ ((D9 sig 0)::key::ps) W gZ.out (A7f (D4b (Ht hg 0 (by decide)) hk) hpf)).mono ?_;rintro e W2 ⟨rfl,b2⟩;go_wp2_with fail;exact C5 (hQ' _ _ b2 rfl (fun h=>by cases h)) (by kernel_rfl)
     case fX=>exact Ed rfl rfl (fun ρ W=>B2y W ρ _ _ _ _ _)
    case eM=>
    intro us iP iQ hg eO gG;have dK:us 5=(J7 (E3 ((D9 sig 0)::key::ps))):=hg _ (List.mem_of_getElem? (i:=2) rfl);obtain⟨aM,cN,bE⟩:=hg _ (List.mem_of_getElem? (i:=3) rfl);have cN:us 6=.pointer (some ⟨aM,0,none⟩):=cN;have fG:=Qq (gG _ (List.mem_of_getElem? (i:=3) rfl) rfl) cN;have eP:=C0 dJ iQ dJ.size;have fH:w.heap.size<aM:=Nat.lt_of_lt_of_le aC.drew.lt fG.1;have fI:w.heap.size+1<aM:=Nat.lt_of_lt_of_le aD.drew.lt fG.1;have fJ:aZ<aM:=Nat.lt_of_lt_of_le aR.drew.lt fG.1;have fK:eH<aM:=Nat.lt_of_lt_of_le aJ.drew.lt fG.1;have iA:w.heap.size+2≤aM:=Nat.le_trans eJ (Nat.le_trans dJ.size fG.1);clear fG;rw[C2];dsimp only[E0,List.foldl,zv,za,zs,zp,zb];simp only[List.set_cons_succ,List.set_cons_zero];rw[dK,cN];clear hg eO gG dK cN iQ dJ;have iR:=C0 bD eP bD.size;have iS:=Nat.le_trans eJ eP.size;have dL:=aC.below eP aC.lt;have dM:=aD.below eP aD.lt;have dN:=aR.below eP aR.lt;have dO:=aJ.below eP aJ.lt;clear eP bD eJ aC aD aR aJ;obtain⟨cQ,aS⟩:∃z,z=C9 iP ⟨aM,0,none⟩ (C7 (E3 ((D9 sig 0)::key::ps))):=⟨_,rfl⟩;have aB:Bk cQ (aM) 184 (C7 (E3 ((D9 sig 0)::key::ps))):=by rw[aS];exact Bk.put64 (bE) ((show (J8 4).length=4 from by simp)) ((X0 ((D9 sig 0)::key::ps)))
    have bL:Bk cQ (w.heap.size) 23 (c8 key):=by rw[aS];exact dL.putFar (p:=⟨aM,0,none⟩) (by show w.heap.size≠aM;omega) _
    have bM:Bk cQ (w.heap.size+1) 61 (c8 sig):=by rw[aS];exact dM.putFar (p:=⟨aM,0,none⟩) (by show w.heap.size+1≠aM;omega) _
    have aK:Bk cQ (aZ) 140 (C7 (Ah key).row):=by rw[aS];exact dN.putFar (p:=⟨aM,0,none⟩) (by show aZ≠aM;omega) _
    have aL:Bk cQ (eH) 184 (C7 (Ad (D9 sig 32))):=by rw[aS];exact dO.putFar (p:=⟨aM,0,none⟩) (by show eH≠aM;omega) _
    have bT:Below w.heap.size w cQ:=by rw[aS];exact C1 iR (by show w.heap.size≤aM;omega) _
    have eQ:E8 iP ⟨aM,0,none⟩ 4=true:=Bk.can64 (bE) ((show (J8 4).length=4 from by simp));have eS:(E3 ((D9 sig 0)::key::ps)).length=4:=(X0 ((D9 sig 0)::key::ps));refine C4 7 (by kernel_rfl) (by rfl) (by rfl) (fun Q' hQ'=>?_);dsimp only[E4];go_wp2_with fail;rw[←aS];refine hQ' _ _ trivial ?_;clear hQ' eQ eS;have iB:w.heap.size+2≤cQ.heap.size:=by have hz:=iS;rw[aS];simp;omega
    clear aS iR iS dL dM dN dO bE;refine I9 (by kernel_rfl) ?_;go_wp2_with fail;have bN:Below cQ.heap.size cQ cQ.drew:=(Below.refl _ _).drew;refine F2 (fun W=>Bk W (aM) 184 (C7 (E3 ((D9 sig 0)::key::ps)))∧Bk W (aZ) 140 (C7 (Ah key).row)∧Bk W (eH) 184 (C7 (Ad (D9 sig 32)))) (by kernel_rfl) ?_;refine C6 (A:=?jM) [0,2,4] (by kernel_rfl) (by kernel_rfl) rfl (by kernel_rfl) (by kernel_rfl) ⟨(aB.drew),(aK.drew),(aL.drew)⟩ (h:=fun W hW=>?iC) (hr:=?jN);case iC=>
     have f0:=Bk.row64 (n:=4) (hW.2.2) ((Ej (D9 sig 32)));have f2:=Bk.row64 (n:=20) (hW.2.1) ((Iq key).row);have f4:=Bk.row64 (n:=4) (hW.1) ((X0 ((D9 sig 0)::key::ps)));simp only[pick,List.getElem?_cons_zero,List.getElem?_cons_succ];repeat (go_big_quiet_step (fail))
     refine wpQuiet_nil ?_;rfl
    refine N9 [zv 1 40 (A8 (D8 (Ad (D9 sig 32)))),zv 3 42 (J7 (Hy (Ah key)).row),zv 5 44 (A8 (D8 (E3 ((D9 sig 0)::key::ps)))),zv 6 45 (J7 (Ih (D8 (Ad (D9 sig 32))) (Hy (Ah key)) (D8 (E3 ((D9 sig 0)::key::ps)))).row),zv 7 46 (A8 (C8 (Ih (D8 (Ad (D9 sig 32))) (Hy (Ah key)) (D8 (E3 ((D9 sig 0)::key::ps)))))),za 8 12 23 (c8 (z8 32))] (by kernel_rfl) (fun W hW=>⟨(aB.drew.below hW aB.drew.lt),(aK.drew.below hW aK.drew.lt),(aL.drew.below hW aL.drew.lt)⟩) ?eT ?eU ?eV;case eT=>exact (List.forall_mem_cons.2 ⟨H7 _ _ _,(List.forall_mem_cons.2 ⟨H7 _ _ _,(List.forall_mem_cons.2 ⟨H7 _ _ _,(List.forall_mem_cons.2 ⟨H7 _ _ _,(List.forall_mem_cons.2 ⟨H7 _ _ _,(List.forall_mem_cons.2 ⟨Ir _ _ _ _,(fun _ h=>by cases h)⟩)⟩)⟩)⟩)⟩)⟩)
    case eU=>
     refine (List.forall_mem_cons.2 ⟨?gH,(List.forall_mem_cons.2 ⟨?gI,(List.forall_mem_cons.2 ⟨?gJ,(List.forall_mem_cons.2 ⟨?gK,(List.forall_mem_cons.2 ⟨?gL,(List.forall_mem_cons.2 ⟨?gM,(fun _ h=>by cases h)⟩)⟩)⟩)⟩)⟩)⟩);case gH=>
      intro o ho us W hW hp Q' hQ';obtain rfl:=Option.some.inj ho;clear hp ho;rw[C2]at hQ' ⊢;dsimp only[E4,E0,List.foldl,zv,za]at hQ' ⊢;simp only[List.set_cons_succ,List.set_cons_zero];have bW:=C0 bT (C0 bN hW bN.size) bT.size;have eN:=Lib.hid (HP.out.up bW);clear bW;go_wp2_with fail;refine (Rm (Ad (D9 sig 32)) (Ej (D9 sig 32)) W).mono ?_;rintro e W2 ⟨rfl,b2⟩;go_wp2_with fail;exact C5 (hQ' _ _ b2 rfl (fun h=>by cases h)) (by kernel_rfl)
     case gI=>intro o ho us W hW hp Q' hQ';obtain rfl:=Option.some.inj ho;have dQ:us 1=(A8 (D8 (Ad (D9 sig 32)))):=hp 0 _ rfl (by kernel_rfl);clear hp ho;rw[C2]at hQ' ⊢;dsimp only[E4,E0,List.foldl,zv,za]at hQ' ⊢;simp only[List.set_cons_succ,List.set_cons_zero];rw[dQ]at hQ' ⊢;clear dQ;have bW:=C0 bT (C0 bN hW bN.size) bT.size;have eN:=Lib.hid (HP.out.up bW);clear bW;go_wp2_with fail;refine (D1l (Ah key) (Iq key) W).mono ?_;rintro e W2 ⟨rfl,b2⟩;go_wp2_with fail;exact C5 (hQ' _ _ b2 rfl (fun h=>by cases h)) (by kernel_rfl)
     case gJ=>intro o ho us W hW hp Q' hQ';obtain rfl:=Option.some.inj ho;have bK:us 3=(J7 (Hy (Ah key)).row):=hp 1 _ rfl (by kernel_rfl);clear hp ho;rw[C2]at hQ' ⊢;dsimp only[E4,E0,List.foldl,zv,za]at hQ' ⊢;simp only[List.set_cons_succ,List.set_cons_zero];rw[bK]at hQ' ⊢;clear bK;have bW:=C0 bT (C0 bN hW bN.size) bT.size;have eN:=Lib.hid (HP.out.up bW);clear bW;go_wp2_with fail;refine (Rm (E3 ((D9 sig 0)::key::ps)) (X0 ((D9 sig 0)::key::ps)) W).mono ?_;rintro e W2 ⟨rfl,b2⟩;go_wp2_with fail;exact C5 (hQ' _ _ b2 rfl (fun h=>by cases h)) (by kernel_rfl)
     case gK=>intro o ho us W hW hp Q' hQ';obtain rfl:=Option.some.inj ho;have dQ:us 1=(A8 (D8 (Ad (D9 sig 32)))):=hp 0 _ rfl (by kernel_rfl);have bK:us 3=(J7 (Hy (Ah key)).row):=hp 1 _ rfl (by kernel_rfl);have dK:us 5=(A8 (D8 (E3 ((D9 sig 0)::key::ps)))):=hp 2 _ rfl (by kernel_rfl);clear hp ho;rw[C2]at hQ' ⊢;dsimp only[E4,E0,List.foldl,zv,za]at hQ' ⊢;simp only[List.set_cons_succ,List.set_cons_zero];rw[dQ,bK,dK]at hQ' ⊢;clear dQ bK dK;have bW:=C0 bT (C0 bN hW bN.size) bT.size;have eN:=Lib.hid (HP.out.up bW);clear bW;go_wp2_with fail;refine (C6s (D8 (Ad (D9 sig 32))) (Hy (Ah key)) (D8 (E3 ((D9 sig 0)::key::ps))) (U3 (Ad (D9 sig 32))) (D2z (Iq key)) (U3 (E3 ((D9 sig 0)::key::ps))) W).mono ?_;rintro e W2 ⟨rfl,b2⟩;go_wp2_with fail;exact C5 (hQ' _ _ b2 rfl (fun h=>by cases h)) (by kernel_rfl)
     case gL=>intro o ho us W hW hp Q' hQ';obtain rfl:=Option.some.inj ho;have cN:us 6=(J7 (Ih (D8 (Ad (D9 sig 32))) (Hy (Ah key)) (D8 (E3 ((D9 sig 0)::key::ps)))).row):=hp 3 _ rfl (by kernel_rfl);clear hp ho;rw[C2]at hQ' ⊢;dsimp only[E4,E0,List.foldl,zv,za]at hQ' ⊢;simp only[List.set_cons_succ,List.set_cons_zero];rw[cN]at hQ' ⊢;clear cN;have bW:=C0 bT (C0 bN hW bN.size) bT.size;have eN:=Lib.hid (HP.out.up bW);clear bW;go_wp2_with fail;refine (Rh (Ih (D8 (Ad (D9 sig 32))) (Hy (Ah key)) (D8 (E3 ((D9 sig 0)::key::ps)))) (C2w (D8 (Ad (D9 sig 32))) (Hy (Ah key)) (D8 (E3 ((D9 sig 0)::key::ps)))) W).mono ?_;rintro e W2 ⟨rfl,b2⟩;go_wp2_with fail;exact C5 (hQ' _ _ b2 rfl (fun h=>by cases h)) (by kernel_rfl)
     case gM=>exact Ed rfl rfl (fun ρ W=>Qt W ρ _ _ _ _ _)
    case eV=>
    intro us iT iU hg eO gG;have dQ:us 1=(A8 (D8 (Ad (D9 sig 32)))):=hg _ (List.mem_of_getElem? (i:=0) rfl);have bK:us 3=(J7 (Hy (Ah key)).row):=hg _ (List.mem_of_getElem? (i:=1) rfl);have dK:us 5=(A8 (D8 (E3 ((D9 sig 0)::key::ps)))):=hg _ (List.mem_of_getElem? (i:=2) rfl);have cN:us 6=(J7 (Ih (D8 (Ad (D9 sig 32))) (Hy (Ah key)) (D8 (E3 ((D9 sig 0)::key::ps)))).row):=hg _ (List.mem_of_getElem? (i:=3) rfl);have iV:us 7=(A8 (C8 (Ih (D8 (Ad (D9 sig 32))) (Hy (Ah key)) (D8 (E3 ((D9 sig 0)::key::ps)))))):=hg _ (List.mem_of_getElem? (i:=4) rfl);obtain⟨aN,gN,bF⟩:=hg _ (List.mem_of_getElem? (i:=5) rfl);have gN:us 8=.pointer (some ⟨aN,0,none⟩):=gN;have eW:=Qq (gG _ (List.mem_of_getElem? (i:=5) rfl) rfl) gN;have dS:=C0 bN iU bN.size;have fL:w.heap.size<aN:=Nat.lt_of_lt_of_le bL.drew.lt eW.1;have fM:w.heap.size+1<aN:=Nat.lt_of_lt_of_le bM.drew.lt eW.1;have fN:aZ<aN:=Nat.lt_of_lt_of_le aK.drew.lt eW.1;have fO:eH<aN:=Nat.lt_of_lt_of_le aL.drew.lt eW.1;have eX:aM<aN:=Nat.lt_of_lt_of_le aB.drew.lt eW.1;have iD:w.heap.size+2≤aN:=Nat.le_trans iB (Nat.le_trans bN.size eW.1);clear eW;rw[C2];dsimp only[E0,List.foldl,zv,za];simp only[List.set_cons_succ,List.set_cons_zero];rw[dQ,bK,dK,cN,iV,gN];clear hg eO gG dQ bK dK cN iV gN iU bN;have iW:=C0 bT dS bT.size
    have iX:=Nat.le_trans iB dS.size;have dT:=bL.below dS bL.lt;have dU:=bM.below dS bM.lt;have dW:=aK.below dS aK.lt;have dX:=aL.below dS aL.lt;have cO:=aB.below dS aB.lt;clear dS bT iB bL bM aK aL aB;obtain⟨bU,aO⟩:∃z,z=C9 iT ⟨aN,0,none⟩ (c8 (C8 (Ih (D8 (Ad (D9 sig 32))) (Hy (Ah key)) (D8 (E3 ((D9 sig 0)::key::ps)))))):=⟨_,rfl⟩;have aT:Bk bU (aN) 23 (c8 (C8 (Ih (D8 (Ad (D9 sig 32))) (Hy (Ah key)) (D8 (E3 ((D9 sig 0)::key::ps)))))):=by rw[aO];exact Bk.put8 (bF) ((show (z8 32).length=32 from by simp)) ((K9 (Ih (D8 (Ad (D9 sig 32))) (Hy (Ah key)) (D8 (E3 ((D9 sig 0)::key::ps))))))
    have cP:Bk bU (w.heap.size) 23 (c8 key):=by rw[aO];exact dT.putFar (p:=⟨aN,0,none⟩) (by show w.heap.size≠aN;omega) _
    have bO:Bk bU (w.heap.size+1) 61 (c8 sig):=by rw[aO];exact dU.putFar (p:=⟨aN,0,none⟩) (by show w.heap.size+1≠aN;omega) _
    have bP:Bk bU (aZ) 140 (C7 (Ah key).row):=by rw[aO];exact dW.putFar (p:=⟨aN,0,none⟩) (by show aZ≠aN;omega) _
    have bQ:Bk bU (eH) 184 (C7 (Ad (D9 sig 32))):=by rw[aO];exact dX.putFar (p:=⟨aN,0,none⟩) (by show eH≠aN;omega) _
    have aU:Bk bU (aM) 184 (C7 (E3 ((D9 sig 0)::key::ps))):=by rw[aO];exact cO.putFar (p:=⟨aN,0,none⟩) (by show aM≠aN;omega) _
    have iE:Below w.heap.size w bU:=by rw[aO];exact C1 iW (by show w.heap.size≤aN;omega) _
    have eY:E8 iT ⟨aN,0,none⟩ 32=true:=Bk.can8 (bF) ((show (z8 32).length=32 from by simp));have eZ:(C8 (Ih (D8 (Ad (D9 sig 32))) (Hy (Ah key)) (D8 (E3 ((D9 sig 0)::key::ps))))).length=32:=(K9 (Ih (D8 (Ad (D9 sig 32))) (Hy (Ah key)) (D8 (E3 ((D9 sig 0)::key::ps)))));refine C4 9 (by kernel_rfl) (by rfl) (by rfl) (fun Q' hQ'=>?_);dsimp only[E4];go_wp2_with fail;rw[←aO];refine hQ' _ _ ⟨aU,bP,bQ⟩ ?_;clear hQ' eY eZ;have iY:w.heap.size+2≤bU.heap.size:=by have hz:=iX;rw[aO];simp;omega
    clear aO iW iX dT dU dW dX cO bF;refine I9 (by kernel_rfl) ?_;go_wp2_with fail;have cR:Below bU.heap.size bU bU.drew:=(Below.refl _ _).drew;refine F2 (fun W=>Bk W (aN) 23 (c8 (C8 (Ih (D8 (Ad (D9 sig 32))) (Hy (Ah key)) (D8 (E3 ((D9 sig 0)::key::ps))))))∧Bk W (w.heap.size+1) 61 (c8 sig)) (by kernel_rfl) ?_;refine C6 (A:=?jO) [0,1,2,3,4,5] (by kernel_rfl) (by kernel_rfl) rfl (by kernel_rfl) (by kernel_rfl) ⟨(aT.drew),(bO.drew)⟩ (h:=fun W hW=>?iF) (hr:=?jP);case iF=>
     have f0:=Bk.row8 (n:=32) (hW.1) ((K9 (Ih (D8 (Ad (D9 sig 32))) (Hy (Ah key)) (D8 (E3 ((D9 sig 0)::key::ps))))));have f3:=Bk.xyAt (hW.2) hg 0 (by decide);simp only[pick,List.getElem?_cons_zero,List.getElem?_cons_succ];repeat (go_big_quiet_step (fail))
     refine wpQuiet_nil ?_;rfl
    obtain⟨jU,fB⟩:∃z,z=bU.drew:=⟨_,rfl⟩;rw[←fB];rw[←fB]at cR;have jQ:=C0 iE cR iE.size;have jV:=Nat.le_trans iY cR.size;have iZ:=cP.below cR cP.lt;have jA:=bO.below cR bO.lt;have jB:=bP.below cR bP.lt;have jC:=bQ.below cR bQ.lt;have iG:=aU.below cR aU.lt;have iH:=aT.below cR aT.lt;clear fB cR iE iY cP bO bP bQ aU aT;refine I9 (by kernel_rfl) ?_;go_wp2_with fail;go_ret;exact ⟨by rw[HV.out];rfl,jQ⟩
  case true=>have HV:=Lib.hid (D7n (sig:=sig) (ps:=ps) hsm);clear hsm;go_wp2_with fail;go_ret;exact ⟨by rw[HV.out];rfl,gP⟩
def B6n (a:N5):N5:=Cn (Yf 2 (sqN a)) a
def Yn (a:N5):N5:=Cn (B6n a) (sqN a)
def n5 (a:N5):N5:=Cn (sqN (Yn a)) (B6n a)
def n10 (a:N5):N5:=Cn (Yf 5 (n5 a)) (n5 a)
def n20 (a:N5):N5:=Cn (Yf 10 (n10 a)) (n10 a)
def n50 (a:N5):N5:=Cn (Yf 10 (Cn (Yf 20 (n20 a)) (n20 a))) (n10 a)
def D1z (a:N5):N5:=Cn (Yf 50 (n50 a)) (n50 a)
def B8a (a:N5):N5:=Cn (Yf 50 (Cn (Yf 100 (D1z a)) (D1z a))) (n50 a)
def C7s (a:N5):N5:=Cn (Yf 5 (B8a a)) (Yn a)
theorem B6v (a:N5):Zv (u5 a)=u5 (B6n a):=by unfold Zv B6n;simp only[A8s,Le,Di]
theorem A4q (a:N5):It (u5 a)=u5 (Yn a):=by unfold It Yn;simp only[B6v,A8s,Le,Di]
theorem F1h (a:N5):f5 (u5 a)=u5 (n5 a):=by unfold f5 n5;simp only[B6v,A4q,A8s,Le,Di]
theorem D4k (a:N5):f10 (u5 a)=u5 (n10 a):=by unfold f10 n10;simp only[F1h,Le,Di]
theorem E4e (a:N5):f20 (u5 a)=u5 (n20 a):=by unfold f20 n20;simp only[D4k,Le,Di]
theorem D3n (a:N5):f50 (u5 a)=u5 (n50 a):=by unfold f50 n50;simp only[D4k,E4e,Le,Di]
theorem D7z (a:N5):A3f (u5 a)=u5 (D1z a):=by unfold A3f D1z;simp only[D3n,Le,Di]
theorem B6y (a:N5):Sd (u5 a)=u5 (B8a a):=by unfold Sd B8a;simp only[D3n,D7z,Le,Di]
theorem C2x (a:N5):Ws (u5 a)=u5 (C7s a):=by unfold Ws C7s;simp only[B6y,A4q,Le,Di]
structure PN where
 x:N5
 y:N5
 z:N5
 t:N5
def uP (p:PN):Pn:=⟨u5 p.x,u5 p.y,u5 p.z,u5 p.t⟩
def A1k (p q:PN) (k:N5):PN:=
 let a:=Cn (Vi p.y p.x) (Vi q.y q.x)
 let b:=Cn (Nv p.y p.x) (Nv q.y q.x)
 let c:=Cn (Cn p.t k) q.t
 let d:=Cn p.z q.z
 let d2:=Nv d d
 let e:=Vi b a
 let f:=Vi d2 c
 let g:=Nv d2 c
 let h:=Nv b a
 ⟨Cn e f,Cn g h,Cn f g,Cn e h⟩
def dbN (p:PN):PN:=
 let a:=Cn p.x p.x
 let b:=Cn p.y p.y
 let c:=Cn p.z p.z
 let h:=Nv a b
 let s:=Nv p.x p.y
 let e:=Vi h (Cn s s)
 let g:=Vi a b
 let f:=Nv (Nv c c) g
 ⟨Cn e f,Cn g h,Cn f g,Cn e h⟩
theorem Un (p q:PN) (k:N5):X6 (uP p) (uP q) (u5 k)=uP (A1k p q k):=by
 unfold X6 uP A1k;simp only[Di,A8j,Te]
theorem C4h (p:PN):Gm (uP p)=uP (dbN p):=by
 unfold Gm uP dbN;simp only[Di,A8j,Te]
theorem C4r:(([]:List UInt64)==[])=true:=rfl
def z5N (x:N5):Bool:=(S4 x.a).beq 0&&((S4 x.b).beq 0&&((S4 x.c).beq 0&&((S4 x.d).beq 0&&(S4 x.e).beq 0)))
def zPN (p:PN):Bool:=z5N p.x&&(z5N p.y&&(z5N p.z&&z5N p.t))
theorem D0p (a:Nat):(UInt64.ofNat a==0)=(S4 a).beq 0:=by
 rw[Bool.eq_iff_iff,beq_iff_eq,Nat.beq_eq,←UInt64.toNat_inj,P4];rfl
theorem C9o (x:N5):(u5 x==J8 5)=z5N x:=by
 show ([UInt64.ofNat x.a,UInt64.ofNat x.b,UInt64.ofNat x.c,UInt64.ofNat x.d,UInt64.ofNat x.e]==[0,0,0,0,0])=_;simp only[List.cons_beq_cons,C4r,D0p,Bool.and_true];rfl
theorem F0y (p:PN):((uP p).row==J8 20)=zPN p:=by
 have e:∀(a b c d:List UInt64),a.length=5→b.length=5→c.length=5→d.length=5→(ptl a b c d==J8 20)=((a==J8 5)&&((b==J8 5)&&((c==J8 5)&&(d==J8 5)))):=by
  intro a b c d ha hb hc hd;match a,b,c,d,ha,hb,hc,hd with
  | [a0,a1,a2,a3,a4],[b0,b1,b2,b3,b4],[c0,c1,c2,c3,c4],[d0,d1,d2,d3,d4],_,_,_,_=>
   show ([a0,a1,a2,a3,a4,b0,b1,b2,b3,b4,c0,c1,c2,c3,c4,d0,d1,d2,d3,d4]==[0,0,0,0,0,0,0,0,0,0,0,0,0,0,0,0,0,0,0,0])=(([a0,a1,a2,a3,a4]==[0,0,0,0,0])&&(([b0,b1,b2,b3,b4]==[0,0,0,0,0])&&(([c0,c1,c2,c3,c4]==[0,0,0,0,0])&&([d0,d1,d2,d3,d4]==[0,0,0,0,0]))));simp only[List.cons_beq_cons,C4r,Bool.true_and,Bool.and_true,Bool.and_assoc]
 unfold Pn.row uP zPN;rw[e _ _ _ _ rfl rfl rfl rfl,C9o,C9o,C9o,C9o]
def Yy:N5:=⟨1,0,0,0,0⟩
def Ez:N5:=⟨0,0,0,0,0⟩
theorem B8q:Cr 1=u5 Yy:=by decide +kernel
theorem B5d:Cr 0=u5 Ez:=by decide +kernel
def A1p (x y:N5):PN:=⟨x,y,Yy,Cn x y⟩
theorem Rf (x y:N5):Bs (u5 x) (u5 y)=uP (A1p x y):=by unfold Bs uP A1p;simp only[Di,B8q]
def Gd (p:PN):PN:=if zPN p then A1p Ez Yy else p
theorem Ju (p:PN):Q3 (uP p)=uP (Gd p):=by
 unfold Q3 Gd;rw[F0y];split
 ·rw[B8q,B5d,Rf]
 ·rfl
def D7u (p:PN):PN:=⟨Vi Ez (Gd p).x,(Gd p).y,(Gd p).z,Vi Ez (Gd p).t⟩
theorem D6h (p:PN):Hy (uP p)=uP (D7u p):=by
 unfold Hy D7u;rw[Ju,B5d];unfold uP;simp only[Te]
def C3l (k:N5) (p q:PN):PN:=A1k (Gd p) (Gd q) k
theorem D6l {k:N5} (hk:F0=u5 k) (p q:PN):B1w (uP p) (uP q)=uP (C3l k p q):=by
 unfold B1w C3l;rw[Ju,Ju,hk,Un]
def D4g (x y:N5):List UInt8:=if A1t (u5 x) then (P5 (u5 y)).set 31 (g8 (P5 (u5 y)) 31 ||| 128) else P5 (u5 y)
def Xe (p:PN):List UInt8:=D4g (Cn (Gd p).x (C7s (Gd p).z)) (Cn (Gd p).y (C7s (Gd p).z))
theorem A7w (p:PN):C8 (uP p)=Xe p:=by
 unfold C8 Xe A8v D4g;rw[Ju];unfold uP;simp only[C2x,Di]
def C2y:Nat→PN→PN
 | 0,p=>p
 | q+1,p=>dbN (C2y q p)
theorem D7q (q:Nat) (p:PN):Be q (uP p)=uP (C2y q p):=by
 induction q with
 | zero=>rfl
 | succ q ih=>show Gm (Be q (uP p))=_;rw[ih,C4h];rfl
def B8k (k:N5) (p:PN):Nat→PN
 | 0=>A1p Ez Yy
 | 1=>Gd p
 | i+2=>A1k (B8k k p (i+1)) (Gd p) k
theorem Tf:Q3 Cm=uP (A1p Ez Yy):=by
 have:Cm=uP ⟨Ez,Ez,Ez,Ez⟩:=rfl;rw[this,Ju];rfl
theorem B6b (k:N5) (p:PN):∀i,B3r (uP p) (u5 k) i=uP (B8k k p i)
 | 0=>Tf
 | 1=>Ju p
 | i+2=>by show X6 (B3r (uP p) (u5 k) (i+1)) (Q3 (uP p)) (u5 k)=_;rw[B6b k p (i+1),Ju,Un];rfl
def B3x (k:N5) (b:PN) (n:List UInt8) (p:PN) (m:List UInt8):Nat→PN
 | 0=>A1p Ez Yy
 | i+1=>A1k (A1k (C2y 4 (B3x k b n p m i)) (B8k k b (dg n (63-i))) k) (B8k k p (dg m (63-i))) k
theorem B8b {k:N5} {b:PN} (hk:F0=u5 k) (hb:C3=uP b) (n:List UInt8) (p:PN) (m:List UInt8):∀i,Z6 n (uP p) m i=uP (B3x k b n p m i)
 | 0=>by
  show Q4 (J1 C3 F0) 0=_;rw[Vu (by decide)];exact Tf
 | i+1=>by
  show X6 (X6 (Be 4 (Z6 n (uP p) m i)) (Q4 (J1 C3 F0) (dg n (63-i))) F0) (Q4 (J1 (uP p) F0) (dg m (63-i))) F0=_;rw[Vu (A8q _ _),Vu (A8q _ _),B8b hk hb n p m i,hk,hb,B6b,B6b,D7q,Un,Un];rfl
def B7r (k:N5):Nat→PN→PN
 | 0,p=>p
 | q+1,p=>C3l k (B7r k q p) (B7r k q p)
theorem C5r {k:N5} (hk:F0=u5 k) (p:PN):∀q,Zt q (uP p)=uP (B7r k q p)
 | 0=>rfl
 | q+1=>by show B1w (Zt q (uP p)) (Zt q (uP p))=_;rw[C5r hk p q,D6l hk];rfl
def B5e (k:N5) (p:PN):Bool:=Xe (B7r k 3 p)==h1 1
theorem C4c {k:N5} (hk:F0=u5 k) (p:PN):Ob (uP p)=B5e k p:=by unfold Ob B5e;rw[C5r hk,A7w]
def B8c (l:List PN) (i:Nat):PN:=l.getD i ⟨Ez,Ez,Ez,Ez⟩
def Qi (k:N5) (l:List PN) (n:List UInt8) (s:Nat) (r:PN):Nat→PN
 | 0=>r
 | i+1=>if C0c n i s then A1k (Qi k l n s r i) (B8c l i) k else Qi k l n s r i
def Qy (k:N5) (l:List PN) (n:List UInt8):Nat→PN
 | 0=>A1p Ez Yy
 | m+1=>Qi k l n (7-m) (dbN (Qy k l n m)) 32
theorem Wd {k:N5} {l:List PN} (hk:F0=u5 k) (hl:∀i,i<32→Hj i=uP (B8c l i)) (n:List UInt8) (s:Nat) (r:PN):∀i,i≤32→Z9 n s (uP r) i=uP (Qi k l n s r i)
 | 0,_=>rfl
 | i+1,hi=>by
  unfold Z9 Qi;split
  ·rw[Wd hk hl n s r i (by omega),hl i (by omega),hk,Un]
  ·exact Wd hk hl n s r i (by omega)
theorem A9q {k:N5} {l:List PN} (hk:F0=u5 k) (hl:∀i,i<32→Hj i=uP (B8c l i)) (n:List UInt8):∀m,W8 n m=uP (Qy k l n m)
 | 0=>Tf
 | m+1=>by
  show Z9 n (7-m) (Gm (W8 n m)) 32=_;rw[A9q hk hl n m,C4h,Wd hk hl _ _ _ _ (Nat.le_refl _)];rfl
def rWN (u v:N5):N5:=Cn u (C7s v)
def C6j (u v:N5):N5:=Cn (Yf 2 (B8a (rWN u v))) (sqN (rWN u v))
def B8h (x w:N5):Bool:=P5 (u5 (Cn x x))==P5 (u5 w)
def C8p:N5:=⟨1718705420411056,234908883556509,2233514472574048,2117202627021982,765476049583133⟩
theorem D0w:Fx=u5 C8p:=rfl
def C9h (u v:N5):N5:=if B8h (C6j u v) (rWN u v) then C6j u v else Cn (C6j u v) C8p
def C8q (x:N5):N5:=if A1t (u5 x) then Vi Ez x else x
def rBN (u v:N5):Bool:=!(P5 (u5 v)==z8 32)&&B8h (C9h u v) (rWN u v)
def rLN (u v:N5):N5:=if rBN u v then C8q (C9h u v) else Ez
theorem A6v (u v:N5):Xn (u5 u) (u5 v)=u5 (rWN u v):=by unfold Xn rWN;simp only[C2x,Di]
theorem C6q (u v:N5):Sx (u5 u) (u5 v)=u5 (C6j u v):=by unfold Sx C6j;simp only[A6v,B6y,Le,A8s,Di]
theorem C6b (x w:N5):A7a (u5 x) (u5 w)=B8h x w:=by unfold A7a B8h;rw[Di]
theorem A8w (u v:N5):Jl (u5 u) (u5 v)=u5 (C9h u v):=by
 unfold Jl C9h;rw[C6q,A6v,C6b,D0w,Di];split<;>rfl
theorem D5x (x:N5):B5a (u5 x)=u5 (C8q x):=by
 unfold B5a C8q;have:J8 5=u5 Ez:=rfl;rw[this,Te];split<;>rfl
theorem B7z (u v:N5):Ex (u5 u) (u5 v)=rBN u v:=by unfold Ex rBN;rw[A8w,A6v,C6b]
theorem D1t (u v:N5):Rv (u5 u) (u5 v)=u5 (rLN u v):=by
 unfold Rv rLN;rw[B7z,A8w,D5x];split<;>rfl
def C6x (kd y:N5):N5:=rLN (Vi (Cn y y) Yy) (Nv (Cn (Cn y y) kd) Yy)
def B6r (kd y:N5):Bool:=rBN (Vi (Cn y y) Yy) (Nv (Cn (Cn y y) kd) Yy)
theorem D6s {b:List UInt8} {kd y:N5} (hd:dee=u5 kd) (hy:Uj b=u5 y):Vz b=u5 (C6x kd y):=by
 unfold Vz C6x A0f A1c;rw[hy,hd,B8q];simp only[Di,Te,A8j,D1t]
theorem D0e {b:List UInt8} {kd y:N5} (hd:dee=u5 kd) (hy:Uj b=u5 y):Ex (A0f b) (A1c b)=B6r kd y:=by
 unfold B6r A0f A1c;rw[hy,hd,B8q];simp only[Di,Te,A8j,B7z]
theorem C9y {b:List UInt8} {kd y x:N5} (hd:dee=u5 kd) (hy:Uj b=u5 y) (hx:Vz b=u5 x) (h1:Ij (Ux b)=true) (h2:B6r kd y=true) (h3:(Kx b&&P5 (u5 x)==z8 32)=false):Fq b=true:=by
 unfold Fq;rw[D0e hd hy,h1,h2,hx,h3];rfl
theorem D7o {b:List UInt8} {y x:N5} (ho:Fq b=true) (hy:Uj b=u5 y) (hx:Vz b=u5 x):Ah b=uP (A1p (if Kx b then Vi Ez x else x) y):=by
 unfold Ah;rw[if_pos ho,hx,hy,B5d,Te];split<;>exact Rf _ _
section
def eq5 (x y:N5):Bool:=Nat.beq x.a y.a&&(Nat.beq x.b y.b&&(Nat.beq x.c y.c&&(Nat.beq x.d y.d&&Nat.beq x.e y.e)))
theorem Vv {x y:N5} (h:eq5 x y=true):x=y:=by
 obtain⟨a,b,c,d,e⟩:=x;obtain⟨a',b',c',d',e'⟩:=y;simp only[eq5,Bool.and_eq_true,Nat.beq_eq]at h;obtain⟨rfl,rfl,rfl,rfl,rfl⟩:=h;rfl
def eqP (p q:PN):Bool:=eq5 p.x q.x&&(eq5 p.y q.y&&(eq5 p.z q.z&&eq5 p.t q.t))
theorem B5n {p q:PN} (h:eqP p q=true):p=q:=by
 obtain⟨a,b,c,d⟩:=p;obtain⟨a',b',c',d'⟩:=q;simp only[eqP,Bool.and_eq_true]at h;rw[Vv h.1,Vv h.2.1,Vv h.2.2.1,Vv h.2.2.2]
set_option maxRecDepth 100000
set_option maxHeartbeats 0
def D6x:N5:=⟨929955233495203,466365720129213,1662059464998953,2033849074728123,1442794654840575⟩
def A2q:N5:=⟨1859910466990425,932731440258426,1072319116312658,1815898335770999,633789495995903⟩
def A1s:PN:=⟨⟨1738742601995546,1146398526822698,2070867633025821,562264141797630,587772402128613⟩,⟨1801439850948184,1351079888211148,450359962737049,900719925474099,1801439850948198⟩,⟨1,0,0,0,0⟩,⟨1841354044333475,16398895984059,755974180946558,900171276175154,1821297809914039⟩⟩
theorem D5g:dee=u5 D6x:=by decide +kernel
theorem B3m:F0=u5 A2q:=by decide +kernel
theorem D3a:T7 A0x=u5 A1s.x:=by decide +kernel
theorem D0c:T7 Zo=u5 A1s.y:=by decide +kernel
theorem D1m:eq5 (Cn A1s.x A1s.y) A1s.t=true:=by decide +kernel
theorem D7m:C3=uP A1s:=by
 show Bs (T7 A0x) (T7 Zo)=_;rw[D3a,D0c,Rf];unfold A1p;rw[Vv D1m];rfl
def A9w (row:List UInt8) (k:Nat):UInt8:=Ri (g8 row (2*k)) <<< 4 ||| Ri (g8 row (2*k+1))
theorem B7h (l:List UInt8) (n j:Nat):g8 (l.drop n) j=g8 l (n+j):=by
 unfold g8;rw[List.getD_eq_getElem?_getD,List.getD_eq_getElem?_getD,List.getElem?_drop]
theorem C1q (i:Nat):B8p i=Gr (A9w (P8.drop (128*i))) 64 64:=by
 unfold B8p;have:Bj i=A9w (P8.drop (128*i)):=by
  funext k;unfold Bj A9w;rw[B7h,B7h];rfl
 rw[this]
noncomputable def U4 (i:Nat) (p:PN):Bool:=T7 (D9 (Gr (A9w (P8.drop (128*i))) 64 64) 0)==u5 p.x&&(T7 (D9 (Gr (A9w (P8.drop (128*i))) 64 64) 32)==u5 p.y&&eqP (A1p p.x p.y) p)
theorem Q2 {i:Nat} {p:PN} (h:U4 i p=true):Hj i=uP p:=by
 unfold U4 at h;simp only[Bool.and_eq_true,beq_iff_eq]at h;unfold Hj;rw[C1q,h.1,h.2.1,Rf,B5n h.2.2]
def kL0:PN:=⟨⟨1738742601995546,1146398526822698,2070867633025821,562264141797630,587772402128613⟩,⟨1801439850948184,1351079888211148,450359962737049,900719925474099,1801439850948198⟩,⟨1,0,0,0,0⟩,⟨1841354044333475,16398895984059,755974180946558,900171276175154,1821297809914039⟩⟩
def kL1:PN:=⟨⟨207657587877206,2100806663644183,634766761317859,1794349103177875,1662326270124510⟩,⟨1161296182310599,941340786753986,2054541528034550,348227273872704,269755449941776⟩,⟨1,0,0,0,0⟩,⟨956558613127806,218246011415390,1471725144979126,911638385797892,1757616091032277⟩⟩
def kL2:PN:=⟨⟨1521219502450021,1846410879841235,34313878798212,10546997869797,1652014780966119⟩,⟨1658952464264246,301281990073328,1421351965663984,1976190811556149,784992082977218⟩,⟨1,0,0,0,0⟩,⟨892904545274529,1276862129681126,2227823945098524,1198975692454157,531459573462592⟩⟩
def kL3:PN:=⟨⟨227770048461431,487879623988285,1417664382069336,21120743092234,192648498818915⟩,⟨489485269993669,31434140373030,662742595234372,520860463613287,581679651492685⟩,⟨1,0,0,0,0⟩,⟨440709916510127,606245067725176,575712091139983,1665763122282094,1396451099334619⟩⟩
def kL4:PN:=⟨⟨2137057258114235,578737412616802,222102366986352,1234677837468596,1356664587499029⟩,⟨1722913527544090,2088871461428873,1128366041178413,803942221589082,1922039712175331⟩,⟨1,0,0,0,0⟩,⟨643056839880049,523898651151534,204380683349760,1233102105443002,2156664000083962⟩⟩
def kL5:PN:=⟨⟨1285304317579493,539645416220191,1912192162872302,1488507247591807,271320221614130⟩,⟨78734827152218,1357852017365999,290905538263157,908753962904692,1078524239176568⟩,⟨1,0,0,0,0⟩,⟨1377163577851704,1450974270990480,1438768082383222,73739011122910,715982777037845⟩⟩
def kL6:PN:=⟨⟨2139631458254162,114745178815772,1087650998417340,1304905119131584,1454119089317820⟩,⟨1848586308489622,611786136704735,745684036015187,324537442443163,1422099643653513⟩,⟨1,0,0,0,0⟩,⟨289958792114194,1718243155014068,618410686050882,2148570867678717,2200768563603231⟩⟩
def kL7:PN:=⟨⟨54901458865636,727536360848802,1177631862964415,1689752924059193,2003135700883297⟩,⟨373003406320657,975674768844653,407736244583094,1999031378370391,1009852647415928⟩,⟨1,0,0,0,0⟩,⟨1775725816775503,1049202381591688,1875336355828115,1273325138276258,1490320459503170⟩⟩
def kL8:PN:=⟨⟨962690963841538,2210719638316993,706068330177389,1384191282407386,1726421572252383⟩,⟨1964103625364243,307116021699043,120882883216088,20816463754899,55369446368493⟩,⟨1,0,0,0,0⟩,⟨1568907369646169,514127314339263,40774287502072,1976251032040224,1733588893334842⟩⟩
def kL9:PN:=⟨⟨1071545802964639,1907633890512027,1590806793797968,801793450737153,552650580738272⟩,⟨147714283167257,991334929770036,740594144646985,1359930762689594,2104011130007174⟩,⟨1,0,0,0,0⟩,⟨1753093361894213,1521233125158248,1386128832987038,1088053247760158,193516695534830⟩⟩
def E3k:PN:=⟨⟨513161589821684,135189712591322,268115112334192,732346932090735,1698600094179178⟩,⟨1926627679356154,546033803356952,1665378458738264,1140574075214145,1041362083641741⟩,⟨1,0,0,0,0⟩,⟨1353416909210792,1517015454331480,809582929435518,2005509998263633,1154861397913715⟩⟩
def E2z:PN:=⟨⟨1739414694272229,1521928877555375,1503334770669637,763386956585108,1862129073046365⟩,⟨1268802689912462,967753215362474,632928647924378,938581088869778,1093383925776355⟩,⟨1,0,0,0,0⟩,⟨1439619040869311,122358970891288,2003741039041763,1571825034906733,1553939020907850⟩⟩
def E2q:PN:=⟨⟨1228065289500112,1995656439401154,747490468072570,1771782479153808,1441803220130225⟩,⟨1133256506751681,1971401122869232,364740748818945,274858525947676,944245750712036⟩,⟨1,0,0,0,0⟩,⟨969799468763409,758675615912443,164497183604933,410658007103705,1365606147138959⟩⟩
def E6n:PN:=⟨⟨2050219849394447,2136640035013897,682111103158185,1698971002258475,442296111034018⟩,⟨558048773939678,897533695604502,1035891336244684,1945051063646027,220875155027932⟩,⟨1,0,0,0,0⟩,⟨136528770899845,637133720221738,1127633800314291,1677182430025837,1482130520813037⟩⟩
def E2i:PN:=⟨⟨513905658590587,680817969573829,1150970882872061,354648524841429,1182660725187364⟩,⟨1687245214141198,1499423053851412,1198492387236350,1278757245406394,1918084130941870⟩,⟨1,0,0,0,0⟩,⟨13131300766877,2018180793845027,437449436518264,116732650814892,1368575053372683⟩⟩
def E6i:PN:=⟨⟨124475054908452,1906983202879951,611701698187204,1873527664260246,1365903236220276⟩,⟨1978406422605413,1915091176750658,961916202316503,396934785157585,866421071701821⟩,⟨1,0,0,0,0⟩,⟨417773349695347,1654602006188621,985389090556103,1189633363629426,288170139646185⟩⟩
def E6f:PN:=⟨⟨78814272546852,343446598238096,1469662686845463,446722075312752,1339733442806879⟩,⟨770831939905131,1066752177064823,855905013023480,1194941381303059,1674322643330780⟩,⟨1,0,0,0,0⟩,⟨2025065385374602,84441031851324,1769310306558354,26295680040963,99051874860870⟩⟩
def E4d:PN:=⟨⟨2248752024183766,708723593180029,1256489519620460,1977762733290583,2173540277402287⟩,⟨356808580336773,889637948668713,2118215992267087,2196570670553569,497367236949540⟩,⟨1,0,0,0,0⟩,⟨637585733359542,1435081831225848,1456442193699608,1717437606507251,1447466321451996⟩⟩
def E1w:PN:=⟨⟨2102370904129425,9421038388327,922877803622304,1730456536722459,762334075187381⟩,⟨427580487847279,1800861300174619,848721725908694,1905002686634420,2174839152969707⟩,⟨1,0,0,0,0⟩,⟨268052600032300,1676250763249512,1344774212489870,1877856504985088,1551852259475401⟩⟩
def E2c:PN:=⟨⟨73949236156954,243328099540869,285103069684975,535059367582198,507523117579041⟩,⟨81762443123683,437772300968419,104708665526234,1600664443758511,2153009907310332⟩,⟨1,0,0,0,0⟩,⟨525185820960592,2109162826897277,1727597431782170,94579111876036,1943291465670801⟩⟩
def E4l:PN:=⟨⟨1007523394043953,877179782120715,750791257494571,1684193508924439,1481971162173362⟩,⟨892412035198752,724888969399762,189791939055799,650037373814668,58891993572333⟩,⟨1,0,0,0,0⟩,⟨2012424166711840,1051009010171064,985378134251402,340978745693086,76576796701879⟩⟩
def E1e:PN:=⟨⟨1221600705668234,422433434344282,1165451223563677,146148415932141,2233882774218833⟩,⟨27130515852506,1042767501773405,1627152082831711,2158630032433998,279351529642523⟩,⟨1,0,0,0,0⟩,⟨399543236321792,304278115101828,1696822803913734,1638181959782862,1187398200262185⟩⟩
def E1i:PN:=⟨⟨1707106071538538,1034947591101305,1883622717070250,2247368448221425,79795392053140⟩,⟨1911252298510640,413658976450780,1847058117559766,170234544819720,1035923066070357⟩,⟨1,0,0,0,0⟩,⟨1620168465800920,853903694194838,1629795986498023,449057437180843,773788728556441⟩⟩
def E3n:PN:=⟨⟨705317732516645,1259080967901750,110596001674658,152606910492821,257476921021274⟩,⟨2000400530866971,1099125665712498,1961944974262476,155981950177417,1046917659734111⟩,⟨1,0,0,0,0⟩,⟨730820343861142,1746061691430809,1882659248310344,918803715970310,1070778979244388⟩⟩
def E5c:PN:=⟨⟨798540852548237,1186388878089071,554557418141563,2038592377592718,488711206961541⟩,⟨833812069173299,646939731425630,1538221673810424,2137163637965756,1721356815521377⟩,⟨1,0,0,0,0⟩,⟨76009751102151,1911895294413367,1262509771121608,1445197895593765,460973337299855⟩⟩
def E6z:PN:=⟨⟨54500732029931,1229228649591394,1395999898189729,1718070411837384,1664301080442019⟩,⟨1903443165125547,559438718436641,993492825524625,534768921454925,1413903496556256⟩,⟨1,0,0,0,0⟩,⟨120803451939400,1228462511466555,1825422928562560,2073882328972608,1338393801812170⟩⟩
def E7t:PN:=⟨⟨2009719025433307,1338026402858380,368645885213984,1305913578656784,900000752165226⟩,⟨901384702181433,618421315369192,1461922630708682,1786955284772872,769606372041141⟩,⟨1,0,0,0,0⟩,⟨2237692444171697,2144656409190513,1435531634016049,1875943125805625,1458226165828182⟩⟩
def E7k:PN:=⟨⟨1290284552533580,149109026735730,152217355613238,1936628254954832,289514889573986⟩,⟨545116827004962,24791008572662,666030275103494,2077271970883202,731991509874304⟩,⟨1,0,0,0,0⟩,⟨682751199693311,2090280524683502,1447319815966402,753208601256438,2019644203483639⟩⟩
def E2r:PN:=⟨⟨66253276699711,1252511340070009,2001984381343139,1811095600397663,2073215811985677⟩,⟨1623460295322413,1593143032869612,1227910477134078,174031738331835,1854653122047196⟩,⟨1,0,0,0,0⟩,⟨378835871973892,862775089586864,2213372231758376,1367038889672674,1837642890635372⟩⟩
def E6r:PN:=⟨⟨855109427260935,1192666648398113,1070509169023896,49743400943463,2059455722217761⟩,⟨1868326402194645,1731588568080711,734486077860206,1792565842527341,1694206596449169⟩,⟨1,0,0,0,0⟩,⟨1030568103689263,1717414762294505,1289812983312952,428593515366431,1052052483814347⟩⟩
def E4u:PN:=⟨⟨1078783740036999,198946038155516,1242334275692922,1915693194367353,716690677826317⟩,⟨1158255922756604,2050076295205690,816279270940781,485560714163174,1498485971338264⟩,⟨1,0,0,0,0⟩,⟨949271686208484,1835219553732856,1146775173265892,2161931743141499,1913301798815708⟩⟩
def E3s:PN:=⟨⟨302555565364767,1820588068919652,772267205884354,1865066538047563,1551475371085944⟩,⟨1996585736328222,70826822300604,211627457424574,562895043924503,1826585557779011⟩,⟨1,0,0,0,0⟩,⟨338531462563851,1655232836796258,315301918780359,145172540828775,2195524900867729⟩⟩
theorem F0l:U4 0 kL0=true:=by decide +kernel
theorem F1l:U4 1 kL1=true:=by decide +kernel
theorem F1z:U4 2 kL2=true:=by decide +kernel
theorem F1q:U4 3 kL3=true:=by decide +kernel
theorem F0o:U4 4 kL4=true:=by decide +kernel
theorem F1x:U4 5 kL5=true:=by decide +kernel
theorem F2b:U4 6 kL6=true:=by decide +kernel
theorem F0w:U4 7 kL7=true:=by decide +kernel
theorem F1n:U4 8 kL8=true:=by decide +kernel
theorem F1g:U4 9 kL9=true:=by decide +kernel
theorem E7e:U4 10 E3k=true:=by decide +kernel
theorem E6g:U4 11 E2z=true:=by decide +kernel
theorem E5v:U4 12 E2q=true:=by decide +kernel
theorem E4g:U4 13 E6n=true:=by decide +kernel
theorem E3q:U4 14 E2i=true:=by decide +kernel
theorem E5r:U4 15 E6i=true:=by decide +kernel
theorem E5l:U4 16 E6f=true:=by decide +kernel
theorem E1x:U4 17 E4d=true:=by decide +kernel
theorem E5h:U4 18 E1w=true:=by decide +kernel
theorem E2e:U4 19 E2c=true:=by decide +kernel
theorem E6x:U4 20 E4l=true:=by decide +kernel
theorem E4o:U4 21 E1e=true:=by decide +kernel
theorem E5z:U4 22 E1i=true:=by decide +kernel
theorem E4t:U4 23 E3n=true:=by decide +kernel
theorem E3v:U4 24 E5c=true:=by decide +kernel
theorem E5n:U4 25 E6z=true:=by decide +kernel
theorem E2u:U4 26 E7t=true:=by decide +kernel
theorem E2g:U4 27 E7k=true:=by decide +kernel
theorem E1u:U4 28 E2r=true:=by decide +kernel
theorem E6j:U4 29 E6r=true:=by decide +kernel
theorem E1l:U4 30 E4u=true:=by decide +kernel
theorem E0y:U4 31 E3s=true:=by decide +kernel
def C5i:List PN:=[kL0,kL1,kL2,kL3,kL4,kL5,kL6,kL7,kL8,kL9,E3k,E2z,E2q,E6n,E2i,E6i,E6f,E4d,E1w,E2c,E4l,E1e,E1i,E3n,E5c,E6z,E7t,E7k,E2r,E6r,E4u,E3s]
theorem E1p:∀i,i<32→Hj i=uP (B8c C5i i):=by
 intro i hi;match i,hi with
 | 0,_=>exact Q2 F0l
 | 1,_=>exact Q2 F1l
 | 2,_=>exact Q2 F1z
 | 3,_=>exact Q2 F1q
 | 4,_=>exact Q2 F0o
 | 5,_=>exact Q2 F1x
 | 6,_=>exact Q2 F2b
 | 7,_=>exact Q2 F0w
 | 8,_=>exact Q2 F1n
 | 9,_=>exact Q2 F1g
 | 10,_=>exact Q2 E7e
 | 11,_=>exact Q2 E6g
 | 12,_=>exact Q2 E5v
 | 13,_=>exact Q2 E4g
 | 14,_=>exact Q2 E3q
 | 15,_=>exact Q2 E5r
 | 16,_=>exact Q2 E5l
 | 17,_=>exact Q2 E1x
 | 18,_=>exact Q2 E5h
 | 19,_=>exact Q2 E2e
 | 20,_=>exact Q2 E6x
 | 21,_=>exact Q2 E4o
 | 22,_=>exact Q2 E5z
 | 23,_=>exact Q2 E4t
 | 24,_=>exact Q2 E3v
 | 25,_=>exact Q2 E5n
 | 26,_=>exact Q2 E2u
 | 27,_=>exact Q2 E2g
 | 28,_=>exact Q2 E1u
 | 29,_=>exact Q2 E6j
 | 30,_=>exact Q2 E1l
 | 31,_=>exact Q2 E0y
 | n+32,h=>exact absurd h (by omega)
theorem Zh {n:List UInt8} {q:PN} {b:List UInt8} (h:Qy A2q C5i n 8=q) (e:(Xe q==b)=true):C8 (F8 C3 n)=b:=by
 have h1:F8 C3 n=Nd n:=A9d n (beq_self_eq_true _);rw[h1];show C8 (W8 n 8)=b;rw[A9q B3m E1p,h,A7w];exact eq_of_beq e
end
end Go.Proofs.YtlegpkdighoflaaGreat
