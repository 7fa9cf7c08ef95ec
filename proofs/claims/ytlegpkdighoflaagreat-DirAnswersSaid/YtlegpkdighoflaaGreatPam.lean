/- A part of the proof of DirAnswers. -/
import Derived.Test.YtlegpkdighoflaaGreatPal
set_option linter.unusedVariables false
set_option linter.unusedSimpArgs false
set_option maxRecDepth 100000
set_option maxHeartbeats 40000000
namespace Go.Proofs.YtlegpkdighoflaaGreat
open Go Go.RowKit Sh
theorem Fi {w V : World} {g : Nat} {T : TypeId} {l m : List UInt64} (n : Nat) (h : V = D8 w ⟨g, 0, none⟩ (C9 m)) (k : Bk w g T (C9 l)) (e : l.length = n) (e2 : m.length = n) : Bk V g T (C9 m) := h ▸ Bk.put64 k e e2
theorem Ee {w : World} {g : Nat} {T : TypeId} {l : List UInt64} (n : Nat) (k : Bk w g T (C9 l)) (e : l.length = n) : T5 w ⟨g, 0, none⟩ n = true := Bk.can64 k e
theorem Cz {Q' : Exit → Act → World → Prop} {a a' : Act} {w : World} (h : Q' .normal a w) (e : a = a' := by kernel_rfl) : Q' .normal a' w := e ▸ h
theorem Ln {P : Prop} (h : P := by
  repeat (first | exact Kh | refine P5 ⟨by first | exact Ph _ _ _ | exact C9s _ _ _ _ | exact zs_mono _ _ _ _ | exact zp_mono _ _ _ | exact zb_mono _ _ _ | exact zk_mono _ _ _ | exact zl_mono _ _ _, ?_⟩)) : P := h
theorem Pv {P Q : Prop} (q : Q) (h : Q → P := by
  intro q
  rw [C7]
  dsimp only [H8, List.foldl, zv, za]
  simp only [List.set_cons_succ, List.set_cons_zero]
  exact q) : P := h q
theorem Tq {Q : World → Prop} {P : Prop} (c : ∀ W, Q W) (h : (∀ W, Q W) → P := by
  intro c o ho us W hW hp Q' hQ'
  obtain rfl := Option.some.inj ho
  clear hp ho
  rw [C7] at hQ' ⊢
  dsimp only [F0, H8, List.foldl, zv, za] at hQ' ⊢
  simp only [List.set_cons_succ, List.set_cons_zero]
  go_wp2_with fail
  refine (c W).mono ?_
  rintro e W2 ⟨rfl, b2⟩
  go_wp2_with fail
  exact Jr (hQ' _ _ b2 rfl (fun h => by cases h)) (by kernel_rfl)) : P := h c
theorem Jt {Q : World → Prop} {P : Prop} (c : ∀ W, Q W) (h : (∀ W, Q W) → P := by
  intro c o ho us W hW hp Q' hQ'
  obtain rfl := Option.some.inj ho
  have g0 := hp 0 _ rfl (by kernel_rfl)
  clear hp ho
  rw [C7] at hQ' ⊢
  dsimp only [F0, H8, List.foldl, zv, za] at hQ' ⊢
  simp only [List.set_cons_succ, List.set_cons_zero]
  dsimp only [zv] at g0
  rw [g0] at hQ' ⊢
  clear g0
  go_wp2_with fail
  refine (c W).mono ?_
  rintro e W2 ⟨rfl, b2⟩
  go_wp2_with fail
  exact Jr (hQ' _ _ b2 rfl (fun h => by cases h)) (by kernel_rfl)) : P := h c
theorem A0t {Q : World → Prop} {P : Prop} (c : ∀ W, Q W) (h : (∀ W, Q W) → P := by
  intro c o ho us W hW hp Q' hQ'
  obtain rfl := Option.some.inj ho
  have g1 := hp 1 _ rfl (by kernel_rfl)
  clear hp ho
  rw [C7] at hQ' ⊢
  dsimp only [F0, H8, List.foldl, zv, za] at hQ' ⊢
  simp only [List.set_cons_succ, List.set_cons_zero]
  dsimp only [zv] at g1
  rw [g1] at hQ' ⊢
  clear g1
  go_wp2_with fail
  refine (c W).mono ?_
  rintro e W2 ⟨rfl, b2⟩
  go_wp2_with fail
  exact Jr (hQ' _ _ b2 rfl (fun h => by cases h)) (by kernel_rfl)) : P := h c
theorem B9e {Q : World → Prop} {P : Prop} (c : ∀ W, Q W) (h : (∀ W, Q W) → P := by
  intro c o ho us W hW hp Q' hQ'
  obtain rfl := Option.some.inj ho
  have g2 := hp 2 _ rfl (by kernel_rfl)
  clear hp ho
  rw [C7] at hQ' ⊢
  dsimp only [F0, H8, List.foldl, zv, za] at hQ' ⊢
  simp only [List.set_cons_succ, List.set_cons_zero]
  dsimp only [zv] at g2
  rw [g2] at hQ' ⊢
  clear g2
  go_wp2_with fail
  refine (c W).mono ?_
  rintro e W2 ⟨rfl, b2⟩
  go_wp2_with fail
  exact Jr (hQ' _ _ b2 rfl (fun h => by cases h)) (by kernel_rfl)) : P := h c
theorem A7s {Q : World → Prop} {P : Prop} (c : ∀ W, Q W) (h : (∀ W, Q W) → P := by
  intro c o ho us W hW hp Q' hQ'
  obtain rfl := Option.some.inj ho
  have g0 := hp 0 _ rfl (by kernel_rfl)
  have g1 := hp 1 _ rfl (by kernel_rfl)
  clear hp ho
  rw [C7] at hQ' ⊢
  dsimp only [F0, H8, List.foldl, zv, za] at hQ' ⊢
  simp only [List.set_cons_succ, List.set_cons_zero]
  dsimp only [zv] at g0 g1
  rw [g0, g1] at hQ' ⊢
  clear g0 g1
  go_wp2_with fail
  refine (c W).mono ?_
  rintro e W2 ⟨rfl, b2⟩
  go_wp2_with fail
  exact Jr (hQ' _ _ b2 rfl (fun h => by cases h)) (by kernel_rfl)) : P := h c
theorem D3s {Q : World → Prop} {P : Prop} (c : ∀ W, Q W) (h : (∀ W, Q W) → P := by
  intro c o ho us W hW hp Q' hQ'
  obtain rfl := Option.some.inj ho
  have g0 := hp 0 _ rfl (by kernel_rfl)
  have g1 := hp 1 _ rfl (by kernel_rfl)
  have g2 := hp 2 _ rfl (by kernel_rfl)
  clear hp ho
  rw [C7] at hQ' ⊢
  dsimp only [F0, H8, List.foldl, zv, za] at hQ' ⊢
  simp only [List.set_cons_succ, List.set_cons_zero]
  dsimp only [zv] at g0 g1 g2
  rw [g0, g1, g2] at hQ' ⊢
  clear g0 g1 g2
  go_wp2_with fail
  refine (c W).mono ?_
  rintro e W2 ⟨rfl, b2⟩
  go_wp2_with fail
  exact Jr (hQ' _ _ b2 rfl (fun h => by cases h)) (by kernel_rfl)) : P := h c
theorem A9c (a:List UInt64) (ha:a.length=5) (w:World):Calls Tryz.prog 129 #[H9 a] w fun e w'=>e=.returned (.tuple #[H9 (Ex a),H9 (Fs a)])∧Below w.heap.size w w':=by
 obtain⟨W0,mK⟩:=F9 ((((w.alloc (Obj.cells (C9 a).toArray 138)).alloc (Obj.cells (C9 (J2 5)).toArray 138)).alloc (Obj.cells (C9 (J2 5)).toArray 138)));have hL:W0=M9 w [(138,(C9 a)),(138,(C9 (J2 5))),(138,(C9 (J2 5)))]:=mK;have B0:=Ki hL;have gG:=Ko hL rfl;have jS:=Ig 1 hL rfl;have jT:=Ig 2 hL rfl;have z0:=Za 3 hL rfl;have pE:=SL' 3 hL rfl;clear hL;have f1:=Bk.row64 (n:=5) (gG) (ha);rw[mK]at f1;go_enter Tryz.func129,Tryz.ntmps129;go_wp2_with fail;rw[←mK];clear f1;clear mK pE;refine (Sg a ha W0).mono ?_;rintro e W2 ⟨rfl,b3⟩;have B2:=K9 B0 b3;have z2:=Nat.le_trans z0 b3.size;have gH:=gG.bl b3;have gI:=jS.bl b3;have gJ:=jT.bl b3;clear b3 B0 z0 gG jS jT;obtain⟨V4,dZ⟩:=F9 (W2.alloc (Obj.cells (C9 (J2 5)).toArray 138));have iZ:W2.heap.size=W2.heap.size:=rfl;have bR:Bk V4 (W2.heap.size) 138 (C9 (J2 5)):=by rw[dZ,←iZ];exact Bk.new W2 _ _
 have eB:=Ac dZ gH;have eC:=Ac dZ gI;have eD:=Ac dZ gJ;have nR:=Lk dZ B2;have bS:=Aj iZ gH;have bT:=Aj iZ gI;have bU:=Aj iZ gJ;have jU:w.heap.size+3≤W2.heap.size:=by rw[←iZ];exact Nat.le_trans z2 (Nat.le_refl _)
 clear iZ;obtain⟨V5,eE⟩:=F9 (D8 V4 ⟨W2.heap.size,0,none⟩ (C9 (Px a)));have aN:=Fi 5 eE bR (by simp) rfl;have aX:=J3 eE eB (by omega);have bV:=J3 eE eC (by omega);have bX:=J3 eE eD (by omega);have nS:=Bi eE nR (by omega);have eF:=Ee 5 bR (by simp);rw[dZ]at eF;have gK:(Px a).length=5:=rfl;go_wp2_with fail;rw[←dZ,←eE];clear eF gK;obtain⟨p6,mN⟩:=F9 (W2.heap.size);rw[←mN]at aN bS bT bU jU;try rw[←mN]
 have mO:w.heap.size+3≤V5.heap.size:=by have hz:=z2;rw[eE,dZ];first | (simp;omega) | (simp[World.setCell];omega)
 clear dZ eE mN gH gI gJ B2 z2 eB eC eD bR nR;have S7:=Fx V5;refine Fa (fun W=>Bk W (w.heap.size) 138 (C9 a)∧Bk W (p6) 138 (C9 (Px a))) ?_;refine Df (A:=?qI) [0,2] ⟨(aX.drew),(aN.drew)⟩ (fun W hW=>?pF) ?qJ;case pF=>
  have f0:=Bk.row64 (n:=5) (hW.2) (rfl);have f2:=Bk.row64 (n:=5) (hW.1) (ha);exact Ei
 refine J8 [zv 1 15 (H9 (Bm 2 (Px a))),zv 3 17 (H9 (Hb a)),za 4 5 138 (C9 (J2 5))] (by kernel_rfl) (fun W hW=>⟨(aX.drew.bl hW),(aN.drew.bl hW)⟩) ?jV ?jW ?jX;case jV=>exact Ln
 case jW=>
  refine (P5 ⟨?mP,(P5 ⟨?mQ,(P5 ⟨?mR,Kh⟩)⟩)⟩);case mP=>
   exact Tq fun W=>Cn (Px a) rfl 2 (by decide) W
  case mQ=>exact Jt fun W=>M8 (Bm 2 (Px a)) a rfl ha W
  case mR=>exact P8 rfl rfl (fun ρ W=>Bg W ρ _ _ _ _ _)
 case jX=>
 intro us W8 b9 hg aD aR;have aO:us 1=(H9 (Bm 2 (Px a))):=hg _ (O8 0 rfl);have aP:us 3=(H9 (Hb a)):=hg _ (O8 1 rfl);obtain⟨mS,aB,gL⟩:=hg _ (O8 2 rfl);have aB:us 4=.pointer (some ⟨mS,0,none⟩):=aB;have aA:=Cc (aR _ (O8 2 rfl) rfl) aB;have gM:=K9 S7 b9;have jY:=X3 aX aA.1;have jZ:=X3 bV aA.1;have kB:=X3 bX aA.1;have kC:=X3 aN aA.1;have nT:=Nat.le_trans mO (Nat.le_trans S7.size aA.1);clear aA;refine Pv ?_;rw[aO,aP,aB];clear hg aD aR aO aP aB b9 S7;have B8:=K9 nS gM;have z8:=Nat.le_trans mO gM.size;have kE:=aX.bl gM;have kF:=bV.bl gM;have kG:=bX.bl gM;have kH:=aN.bl gM;clear gM nS mO aX bV bX aN;obtain⟨pG,aS⟩:=F9 (D8 W8 ⟨mS,0,none⟩ (C9 (Hb a)));have bY:=Fi 5 aS gL (by simp) rfl;have bZ:=J3 aS kE (by omega);have eG:=J3 aS kF (by omega);have eH:=J3 aS kG (by omega);have bL:=J3 aS kH (by omega);have nU:=Bi aS B8 (by omega);have gN:=Ee 5 gL (by simp);have gO:(Hb a).length=5:=rfl;refine U7 5 fun Q' hQ'=>?_;dsimp only[F0];go_wp2_with fail;rw[←aS];refine hQ' _ _ ⟨bZ,bL⟩ ?_;clear hQ' gN gO;have nV:=Il aS z8;clear aS B8 z8 kE kF kG kH gL;refine Ef ?_;have pH:=Bk.row64 (n:=5) (bY) (rfl);have pI:=Bk.row64 (n:=5) (bL) (rfl);go_wp2_with fail;clear pH pI;refine (M8 (Hb a) (Px a) rfl rfl pG).mono ?_;rintro e eI ⟨rfl,eJ⟩
 have nW:=K9 nU eJ;have mU:=Nat.le_trans nV eJ.size;have cA:=bZ.bl eJ;have cB:=eG.bl eJ;have cC:=eH.bl eJ;have cD:=bL.bl eJ;have cE:=bY.bl eJ;clear eJ nU nV bZ eG eH bL bY;obtain⟨nX,aH⟩:=F9 (eI.alloc (Obj.cells (C9 (J2 5)).toArray 138));have aY:eI.heap.size=eI.heap.size:=rfl;have bC:Bk nX (eI.heap.size) 138 (C9 (J2 5)):=by rw[aH,←aY];exact Bk.new eI _ _
 have cF:=Ac aH cA;have cG:=Ac aH cB;have cH:=Ac aH cC;have cI:=Ac aH cD;have cJ:=Ac aH cE;have kI:=Lk aH nW;have cK:=Aj aY cA;have cL:=Aj aY cB;have cM:=Aj aY cC;have cN:=Aj aY cD;have cO:=Aj aY cE;have kJ:w.heap.size+3≤eI.heap.size:=by rw[←aY];exact Nat.le_trans mU (Nat.le_refl _)
 clear aY;obtain⟨nY,aM⟩:=F9 (D8 nX ⟨eI.heap.size,0,none⟩ (C9 (C4 (Hb a) (Px a))));have aE:=Fi 5 aM bC (by simp) rfl;have bD:=J3 aM cF (by omega);have bE:=J3 aM cG (by omega);have bF:=J3 aM cH (by omega);have bG:=J3 aM cI (by omega);have aI:=J3 aM cJ (by omega);have kK:=Bi aM kI (by omega);have cP:=Ee 5 bC (by simp);rw[aH]at cP;have gK:(C4 (Hb a) (Px a)).length=5:=rfl;go_wp2_with fail;rw[←aH,←aM];clear cP gK;obtain⟨nZ,gP⟩:=F9 (eI.heap.size);rw[←gP]at aE cK cL cM cN cO kJ;try rw[←gP]
 have gQ:w.heap.size+3≤nY.heap.size:=by have hz:=mU;rw[aM,aH];first | (simp;omega) | (simp[World.setCell];omega)
 clear aH aM gP cA cB cC cD cE nW mU cF cG cH cI cJ bC kI;have mV:=Fx nY;refine Fa (fun W=>Bk W (mS) 138 (C9 (Hb a))∧Bk W (nZ) 138 (C9 (C4 (Hb a) (Px a)))) ?_;refine Df (A:=?pJ) [0,2] ⟨(aI.drew),(aE.drew)⟩ (fun W hW=>?mW) ?pK;case mW=>
  have f0:=Bk.row64 (n:=5) (hW.2) (rfl);have f2:=Bk.row64 (n:=5) (hW.1) (rfl);exact Ei
 refine J8 [zv 1 22 (H9 (Px (C4 (Hb a) (Px a)))),zv 3 24 (H9 (f5 a)),za 4 7 138 (C9 (J2 5))] (by kernel_rfl) (fun W hW=>⟨(aI.drew.bl hW),(aE.drew.bl hW)⟩) ?gR ?gS ?gT;case gR=>exact Ln
 case gS=>
  refine (P5 ⟨?kL,(P5 ⟨?kM,(P5 ⟨?kN,Kh⟩)⟩)⟩);case kL=>
   exact Tq fun W=>Sg (C4 (Hb a) (Px a)) rfl W
  case kM=>exact Jt fun W=>M8 (Px (C4 (Hb a) (Px a))) (Hb a) rfl rfl W
  case kN=>exact P8 rfl rfl (fun ρ W=>Bg W ρ _ _ _ _ _)
 case gT=>
 intro us pL oA hg aD aR;have aO:us 1=(H9 (Px (C4 (Hb a) (Px a)))):=hg _ (O8 0 rfl);have aP:us 3=(H9 (f5 a)):=hg _ (O8 1 rfl);obtain⟨mX,aB,cQ⟩:=hg _ (O8 2 rfl);have aB:us 4=.pointer (some ⟨mX,0,none⟩):=aB;have aA:=Cc (aR _ (O8 2 rfl) rfl) aB;have eA:=K9 mV oA;have kO:=X3 bD aA.1;have kP:=X3 bE aA.1;have kQ:=X3 bF aA.1;have kR:=X3 bG aA.1;have kS:=X3 aI aA.1;have kT:=X3 aE aA.1;have oB:=Nat.le_trans gQ (Nat.le_trans mV.size aA.1);clear aA;refine Pv ?_;rw[aO,aP,aB];clear hg aD aR aO aP aB oA mV;have oC:=K9 kK eA;have oD:=Nat.le_trans gQ eA.size;have eK:=bD.bl eA;have eL:=bE.bl eA;have eM:=bF.bl eA;have eN:=bG.bl eA;have eO:=aI.bl eA;have eP:=aE.bl eA;clear eA kK gQ bD bE bF bG aI aE;obtain⟨pM,aJ⟩:=F9 (D8 pL ⟨mX,0,none⟩ (C9 (f5 a)));have aZ:=Fi 5 aJ cQ (by simp) rfl;have cR:=J3 aJ eK (by omega);have cS:=J3 aJ eL (by omega);have cT:=J3 aJ eM (by omega);have cU:=J3 aJ eN (by omega);have bM:=J3 aJ eO (by omega);have bN:=J3 aJ eP (by omega);have oE:=Bi aJ oC (by omega);have gU:=Ee 5 cQ (by simp);have gV:(f5 a).length=5:=rfl;refine U7 5 fun Q' hQ'=>?_;dsimp only[F0];go_wp2_with fail;rw[←aJ];refine hQ' _ _ ⟨bM,bN⟩ ?_;clear hQ' gU gV;have mY:=Il aJ oD
 clear aJ oC oD eK eL eM eN eO eP cQ;refine Ef ?_;go_wp2_with fail;have mZ:=Fx pM;refine Fa (fun W=>Bk W (mX) 138 (C9 (f5 a))) ?_;refine Df (A:=?pN) [0,2] (aZ.drew) (fun W hW=>?nA) ?pO;case nA=>
  have f0:=Bk.row64 (n:=5) (hW) (rfl);exact Ei
 refine J8 [zv 1 26 (H9 (Bm 5 (f5 a))),zv 3 28 (H9 (Xp a)),za 4 8 138 (C9 (J2 5))] (by kernel_rfl) (fun W hW=>(aZ.drew.bl hW)) ?gW ?gY ?gZ;case gW=>exact Ln
 case gY=>
  refine (P5 ⟨?kU,(P5 ⟨?kV,(P5 ⟨?kY,Kh⟩)⟩)⟩);case kU=>
   exact Tq fun W=>Cn (f5 a) rfl 5 (by decide) W
  case kV=>exact Jt fun W=>M8 (Bm 5 (f5 a)) (f5 a) rfl rfl W
  case kY=>exact P8 rfl rfl (fun ρ W=>Bg W ρ _ _ _ _ _)
 case gZ=>
 intro us pP oF hg aD aR;have aO:us 1=(H9 (Bm 5 (f5 a))):=hg _ (O8 0 rfl);have aP:us 3=(H9 (Xp a)):=hg _ (O8 1 rfl);obtain⟨mL,aB,cV⟩:=hg _ (O8 2 rfl);have aB:us 4=.pointer (some ⟨mL,0,none⟩):=aB;have aA:=Cc (aR _ (O8 2 rfl) rfl) aB;have dY:=K9 mZ oF;have kZ:=X3 cR aA.1;have lA:=X3 cS aA.1;have lB:=X3 cT aA.1;have lC:=X3 cU aA.1;have lD:=X3 bM aA.1;have lE:=X3 bN aA.1;have lF:=X3 aZ aA.1;have oG:=Nat.le_trans mY (Nat.le_trans mZ.size aA.1);clear aA;refine Pv ?_;rw[aO,aP,aB];clear hg aD aR aO aP aB oF mZ;have oH:=K9 oE dY;have oI:=Nat.le_trans mY dY.size;have eQ:=cR.bl dY;have eS:=cS.bl dY;have eT:=cT.bl dY;have eU:=cU.bl dY;have eV:=bM.bl dY;have eX:=bN.bl dY;have eY:=aZ.bl dY;clear dY oE mY cR cS cT cU bM bN aZ;obtain⟨pQ,aG⟩:=F9 (D8 pP ⟨mL,0,none⟩ (C9 (Xp a)));have bA:=Fi 5 aG cV (by simp) rfl;have cW:=J3 aG eQ (by omega);have cX:=J3 aG eS (by omega);have cY:=J3 aG eT (by omega);have cZ:=J3 aG eU (by omega);have dB:=J3 aG eV (by omega);have dC:=J3 aG eX (by omega);have bO:=J3 aG eY (by omega);have oJ:=Bi aG oH (by omega);have hF:=Ee 5 cV (by simp);have hJ:(Xp a).length=5:=rfl;refine U7 5 fun Q' hQ'=>?_;dsimp only[F0];go_wp2_with fail;rw[←aG];refine hQ' _ _ bO ?_
 clear hQ' hF hJ;have nB:=Il aG oI;clear aG oH oI eQ eS eT eU eV eX eY cV;refine Ef ?_;go_wp2_with fail;have nC:=Fx pQ;refine Fa (fun W=>Bk W (mL) 138 (C9 (Xp a))) ?_;refine Df (A:=?pR) [0,2] (bA.drew) (fun W hW=>?nD) ?pS;case nD=>
  have f0:=Bk.row64 (n:=5) (hW) (rfl);exact Ei
 refine J8 [zv 1 30 (H9 (Bm 10 (Xp a))),zv 3 32 (H9 (Pq a)),za 4 9 138 (C9 (J2 5))] (by kernel_rfl) (fun W hW=>(bA.drew.bl hW)) ?hY ?iA ?iB;case hY=>exact Ln
 case iA=>
  refine (P5 ⟨?lG,(P5 ⟨?lH,(P5 ⟨?lI,Kh⟩)⟩)⟩);case lG=>
   exact Tq fun W=>Cn (Xp a) rfl 10 (by decide) W
  case lH=>exact Jt fun W=>M8 (Bm 10 (Xp a)) (Xp a) rfl rfl W
  case lI=>exact P8 rfl rfl (fun ρ W=>Bg W ρ _ _ _ _ _)
 case iB=>
 intro us pT oK hg aD aR;have aO:us 1=(H9 (Bm 10 (Xp a))):=hg _ (O8 0 rfl);have aP:us 3=(H9 (Pq a)):=hg _ (O8 1 rfl);obtain⟨nE,aB,dD⟩:=hg _ (O8 2 rfl);have aB:us 4=.pointer (some ⟨nE,0,none⟩):=aB;have aA:=Cc (aR _ (O8 2 rfl) rfl) aB;have dE:=K9 nC oK;have lJ:=X3 cW aA.1;have lK:=X3 cX aA.1;have lL:=X3 cY aA.1;have lM:=X3 cZ aA.1;have lN:=X3 dB aA.1;have lO:=X3 dC aA.1;have lP:=X3 bO aA.1;have lQ:=X3 bA aA.1;have oL:=Nat.le_trans nB (Nat.le_trans nC.size aA.1);clear aA;refine Pv ?_;rw[aO,aP,aB];clear hg aD aR aO aP aB oK nC;have oM:=K9 oJ dE;have oN:=Nat.le_trans nB dE.size;have eZ:=cW.bl dE;have fC:=cX.bl dE;have fD:=cY.bl dE;have fE:=cZ.bl dE;have fF:=dB.bl dE;have fG:=dC.bl dE;have fH:=bO.bl dE;have fI:=bA.bl dE;clear dE oJ nB cW cX cY cZ dB dC bO bA;obtain⟨pU,aF⟩:=F9 (D8 pT ⟨nE,0,none⟩ (C9 (Pq a)));have bB:=Fi 5 aF dD (by simp) rfl;have dF:=J3 aF eZ (by omega);have dG:=J3 aF fC (by omega);have dH:=J3 aF fD (by omega);have dI:=J3 aF fE (by omega);have dJ:=J3 aF fF (by omega);have dK:=J3 aF fG (by omega);have dL:=J3 aF fH (by omega);have aQ:=J3 aF fI (by omega);have oO:=Bi aF oM (by omega);have iC:=Ee 5 dD (by simp)
 have iD:(Pq a).length=5:=rfl;refine U7 5 fun Q' hQ'=>?_;dsimp only[F0];go_wp2_with fail;rw[←aF];refine hQ' _ _ aQ ?_;clear hQ' iC iD;have nG:=Il aF oN;clear aF oM oN eZ fC fD fE fF fG fH fI dD;refine Ef ?_;go_wp2_with fail;have nH:=Fx pU;refine Fa (fun W=>Bk W (mL) 138 (C9 (Xp a))∧Bk W (nE) 138 (C9 (Pq a))) ?_;refine Df (A:=?pV) [0,2,5] ⟨(aQ.drew),(bB.drew)⟩ (fun W hW=>?nI) ?pW;case nI=>have f0:=Bk.row64 (n:=5) (hW.2) (rfl);have f5:=Bk.row64 (n:=5) (hW.1) (rfl);exact Ei
 refine J8 [zv 1 34 (H9 (Bm 20 (Pq a))),zv 3 36 (H9 (C4 (Bm 20 (Pq a)) (Pq a))),zv 4 37 (H9 (Bm 10 (C4 (Bm 20 (Pq a)) (Pq a)))),zv 6 39 (H9 (f50 a)),za 7 10 138 (C9 (J2 5))] (by kernel_rfl) (fun W hW=>⟨(aQ.drew.bl hW),(bB.drew.bl hW)⟩) ?iE ?iF ?iG;case iE=>exact Ln
 case iF=>
  refine (P5 ⟨?lR,(P5 ⟨?lS,(P5 ⟨?lT,(P5 ⟨?lU,(P5 ⟨?lV,Kh⟩)⟩)⟩)⟩)⟩);case lR=>
   exact Tq fun W=>Cn (Pq a) rfl 20 (by decide) W
  case lS=>exact Jt fun W=>M8 (Bm 20 (Pq a)) (Pq a) rfl rfl W
  case lT=>exact A0t fun W=>Cn (C4 (Bm 20 (Pq a)) (Pq a)) rfl 10 (by decide) W
  case lU=>exact B9e fun W=>M8 (Bm 10 (C4 (Bm 20 (Pq a)) (Pq a))) (Xp a) rfl rfl W
  case lV=>exact P8 rfl rfl (fun ρ W=>Bg W ρ _ _ _ _ _)
 case iG=>
 intro us pX oP hg aD aR;have aO:us 1=(H9 (Bm 20 (Pq a))):=hg _ (O8 0 rfl);have aP:us 3=(H9 (C4 (Bm 20 (Pq a)) (Pq a))):=hg _ (O8 1 rfl);have aB:us 4=(H9 (Bm 10 (C4 (Bm 20 (Pq a)) (Pq a)))):=hg _ (O8 2 rfl);have lX:us 6=(H9 (f50 a)):=hg _ (O8 3 rfl);obtain⟨mM,lY,bH⟩:=hg _ (O8 4 rfl);have lY:us 7=.pointer (some ⟨mM,0,none⟩):=lY;have dM:=Cc (aR _ (O8 4 rfl) rfl) lY;have bQ:=K9 nH oP;have jA:=X3 dF dM.1;have jB:=X3 dG dM.1;have jC:=X3 dH dM.1;have jD:=X3 dI dM.1;have jE:=X3 dJ dM.1;have jF:=X3 dK dM.1;have jG:=X3 dL dM.1;have jH:=X3 aQ dM.1;have jI:=X3 bB dM.1;have nJ:=Nat.le_trans nG (Nat.le_trans nH.size dM.1);clear dM;refine Pv ?_;rw[aO,aP,aB,lX,lY];clear hg aD aR aO aP aB lX lY oP nH;have oQ:=K9 oO bQ;have oR:=Nat.le_trans nG bQ.size;have fJ:=dF.bl bQ;have fK:=dG.bl bQ;have fL:=dH.bl bQ;have fM:=dI.bl bQ;have fN:=dJ.bl bQ;have fO:=dK.bl bQ;have fP:=dL.bl bQ;have fQ:=aQ.bl bQ;have fR:=bB.bl bQ;clear bQ oO nG dF dG dH dI dJ dK dL aQ bB;obtain⟨pY,aC⟩:=F9 (D8 pX ⟨mM,0,none⟩ (C9 (f50 a)));have aK:=Fi 5 aC bH (by simp) rfl;have fS:=J3 aC fJ (by omega);have dN:=J3 aC fK (by omega);have dO:=J3 aC fL (by omega);have fT:=J3 aC fM (by omega)
 have fU:=J3 aC fN (by omega);have dP:=J3 aC fO (by omega);have fV:=J3 aC fP (by omega);have dQ:=J3 aC fQ (by omega);have dR:=J3 aC fR (by omega);have oS:=Bi aC oQ (by omega);have iH:=Ee 5 bH (by simp);have iI:(f50 a).length=5:=rfl;refine U7 8 fun Q' hQ'=>?_;dsimp only[F0];go_wp2_with fail;rw[←aC];refine hQ' _ _ ⟨dQ,dR⟩ ?_;clear hQ' iH iI;have nK:=Il aC oR;clear aC oQ oR fJ fK fL fM fN fO fP fQ fR bH;refine Ef ?_;go_wp2_with fail;have nL:=Fx pY;refine Fa (fun W=>Bk W (mM) 138 (C9 (f50 a))) ?_;refine Df (A:=?pZ) [0,2] (aK.drew) (fun W hW=>?nM) ?qA;case nM=>have f0:=Bk.row64 (n:=5) (hW) (rfl);exact Ei
 refine J8 [zv 1 41 (H9 (Bm 50 (f50 a))),zv 3 43 (H9 (Jj a)),za 4 11 138 (C9 (J2 5))] (by kernel_rfl) (fun W hW=>(aK.drew.bl hW)) ?iJ ?iK ?iL;case iJ=>exact Ln
 case iK=>
  refine (P5 ⟨?lZ,(P5 ⟨?mA,(P5 ⟨?mB,Kh⟩)⟩)⟩);case lZ=>
   exact Tq fun W=>Cn (f50 a) rfl 50 (by decide) W
  case mA=>exact Jt fun W=>M8 (Bm 50 (f50 a)) (f50 a) rfl rfl W
  case mB=>exact P8 rfl rfl (fun ρ W=>Bg W ρ _ _ _ _ _)
 case iL=>
 intro us qB oT hg aD aR;have aO:us 1=(H9 (Bm 50 (f50 a))):=hg _ (O8 0 rfl);have aP:us 3=(H9 (Jj a)):=hg _ (O8 1 rfl);obtain⟨nO,aB,bI⟩:=hg _ (O8 2 rfl);have aB:us 4=.pointer (some ⟨nO,0,none⟩):=aB;have aA:=Cc (aR _ (O8 2 rfl) rfl) aB;have iM:=K9 nL oT;have jJ:=X3 fS aA.1;have jK:=X3 dN aA.1;have jL:=X3 dO aA.1;have jM:=X3 fT aA.1;have jN:=X3 fU aA.1;have jO:=X3 dP aA.1;have jP:=X3 fV aA.1;have jQ:=X3 dQ aA.1;have jR:=X3 dR aA.1;have iN:=X3 aK aA.1;have nP:=Nat.le_trans nK (Nat.le_trans nL.size aA.1);clear aA;refine Pv ?_;rw[aO,aP,aB];clear hg aD aR aO aP aB oT nL;have oU:=K9 oS iM;have oV:=Nat.le_trans nK iM.size;have fW:=dN.bl iM;have fX:=dO.bl iM;have fY:=dP.bl iM;have dS:=aK.bl iM;clear iM oS nK fS dN dO fT fU dP fV dQ dR aK;obtain⟨qC,aT⟩:=F9 (D8 qB ⟨nO,0,none⟩ (C9 (Jj a)));have aU:=Fi 5 aT bI (by simp) rfl;have fZ:=J3 aT fW (by omega);have gA:=J3 aT fX (by omega);have bP:=J3 aT fY (by omega);have aL:=J3 aT dS (by omega);have oW:=Bi aT oU (by omega);have iO:=Ee 5 bI (by simp);have iP:(Jj a).length=5:=rfl;refine U7 5 fun Q' hQ'=>?_;dsimp only[F0];go_wp2_with fail;rw[←aT];refine hQ' _ _ aL ?_;clear hQ' iO iP;have oX:=Il aT oV
 clear aT oU oV fW fX fY dS bI;refine Ef ?_;go_wp2_with fail;have oY:=Fx qC;refine Fa (fun W=>Bk W (mM) 138 (C9 (f50 a))∧Bk W (nO) 138 (C9 (Jj a))∧Bk W (nZ) 138 (C9 (C4 (Hb a) (Px a)))) ?_;refine Df (A:=?qD) [0,2,5,7] ⟨(aL.drew),(aU.drew),(bP.drew)⟩ (fun W hW=>?nQ) ?qE;case nQ=>
  have f0:=Bk.row64 (n:=5) (hW.2.1) (rfl);have f5:=Bk.row64 (n:=5) (hW.1) (rfl);have f7:=Bk.row64 (n:=5) (hW.2.2) (rfl);exact Ei
 refine J8 [zv 1 45 (H9 (Bm 100 (Jj a))),zv 3 47 (H9 (C4 (Bm 100 (Jj a)) (Jj a))),zv 4 48 (H9 (Bm 50 (C4 (Bm 100 (Jj a)) (Jj a)))),zv 6 50 (H9 (Ex a))] (by kernel_rfl) (fun W hW=>⟨(aL.drew.bl hW),(aU.drew.bl hW),(bP.drew.bl hW)⟩) ?iQ ?iR ?iS;case iQ=>exact Ln
 case iR=>
  refine (P5 ⟨?mD,(P5 ⟨?mE,(P5 ⟨?mF,(P5 ⟨?mG,Kh⟩)⟩)⟩)⟩);case mD=>
   exact Tq fun W=>Cn (Jj a) rfl 100 (by decide) W
  case mE=>exact Jt fun W=>M8 (Bm 100 (Jj a)) (Jj a) rfl rfl W
  case mF=>exact A0t fun W=>Cn (C4 (Bm 100 (Jj a)) (Jj a)) rfl 50 (by decide) W
  case mG=>exact B9e fun W=>M8 (Bm 50 (C4 (Bm 100 (Jj a)) (Jj a))) (f50 a) rfl rfl W
 case iS=>
 intro us qF oZ hg aD aR;have aO:us 1=(H9 (Bm 100 (Jj a))):=hg _ (O8 0 rfl);have aP:us 3=(H9 (C4 (Bm 100 (Jj a)) (Jj a))):=hg _ (O8 1 rfl);have aB:us 4=(H9 (Bm 50 (C4 (Bm 100 (Jj a)) (Jj a)))):=hg _ (O8 2 rfl);have lX:us 6=(H9 (Ex a)):=hg _ (O8 3 rfl);have gB:=K9 oY oZ;refine Pv ?_;rw[aO,aP,aB,lX];clear hg aD aR aO aP aB lX oZ oY;have pA:=K9 oW gB;have pB:=Nat.le_trans oX gB.size;have dT:=fZ.bl gB;have gC:=gA.bl gB;have gE:=bP.bl gB;have dU:=aL.bl gB;have dV:=aU.bl gB;clear gB oW oX fZ gA bP aL aU;obtain⟨qG,aV⟩:=F9 (D8 qF ⟨w.heap.size+1,0,none⟩ (C9 (Ex a)));have gF:=Fi 5 aV dT (by simp) rfl;have dW:=J3 aV gC (by omega);have dX:=J3 aV gE (by omega);have bJ:=J3 aV dU (by omega);have bK:=J3 aV dV (by omega);have pC:=Bi aV pA (by omega);have iT:=Ee 5 dT (by simp);have iU:(Ex a).length=5:=rfl;refine U7 8 fun Q' hQ'=>?_;dsimp only[F0];go_wp2_with fail;rw[←aV];refine hQ' _ _ ⟨bJ,bK,dX⟩ ?_;clear hQ' iT iU;have pD:=Il aV pB;clear aV pA pB dT gC gE dU dV;obtain⟨qK,aW⟩:=F9 (D8 qG ⟨w.heap.size+2,0,none⟩ (C9 (C4 (Hb a) (Px a))));have mH:=Fi 5 aW dW (by simp) rfl;have mI:=J3 aW gF (by omega);have mJ:=J3 aW dX (by omega);have iV:=J3 aW bJ (by omega)
 have iW:=J3 aW bK (by omega);have qH:=Bi aW pC (by omega);have iX:=Ee 5 dW (by simp);have iY:(C4 (Hb a) (Px a)).length=5:=rfl;refine U7 9 fun Q' hQ'=>?_;dsimp only[F0];go_wp2_with fail;rw[←aW];refine hQ' _ _ ⟨iV,iW,mJ⟩ ?_;clear hQ' iX iY;have qL:=Il aW pD;clear aW pC pD gF dW dX bJ bK;refine Ef ?_;go_wp2_with fail;refine bodyPost_ret (v:=.tuple #[H9 (Ex a),H9 (Fs a)]) ?_ rfl ⟨rfl,qH⟩;exact N9 rfl (M7.row mI rfl _ Q9 rfl (by simp[Z6])) (M7.row (show Bk _ _ _ (C9 (Fs a)) from mH) rfl _ Q9 rfl (by simp[Z6]))
theorem A6m (a:List UInt64) (ha:a.length=5) (w:World):Calls Tryz.prog 101 #[H9 a] w fun e w'=>e=.returned (H9 (Bd a))∧Below w.heap.size w w':=by
 obtain⟨W0,bS⟩:=F9 (((w.alloc (Obj.cells (C9 a).toArray 138)).alloc (Obj.cells (C9 (J2 5)).toArray 138)));have hL:W0=M9 w [(138,(C9 a)),(138,(C9 (J2 5)))]:=bS;have B0:=Ki hL;have aZ:=Ko hL rfl;have bH:=Ig 1 hL rfl;have z0:=Za 2 hL rfl;clear hL;have f1:=Bk.row64 (n:=5) (aZ) (ha);rw[bS]at f1;go_enter Tryz.func101,Tryz.ntmps101;go_wp2_with fail;rw[←bS];clear f1;clear bS;refine (A9c a ha W0).mono ?_;rintro e W2 ⟨rfl,b3⟩;have B2:=K9 B0 b3;have z2:=Nat.le_trans z0 b3.size;have bA:=aZ.bl b3;have bB:=bH.bl b3;clear b3 B0 z0 aZ bH;obtain⟨V4,aN⟩:=F9 (W2.alloc (Obj.cells (C9 (J2 5)).toArray 138));have bI:W2.heap.size=W2.heap.size:=rfl;have aD:Bk V4 (W2.heap.size) 138 (C9 (J2 5)):=by rw[aN,←bI];exact Bk.new W2 _ _
 have aO:=Ac aN bA;have aE:=Ac aN bB;have cB:=Lk aN B2;have aF:=Aj bI bA;have aG:=Aj bI bB;have bJ:w.heap.size+2≤W2.heap.size:=by rw[←bI];exact Nat.le_trans z2 (Nat.le_refl _)
 clear bI;obtain⟨V5,aP⟩:=F9 (V4.alloc (Obj.cells (C9 (J2 5)).toArray 138));have bC:V4.heap.size=W2.heap.size+1:=by rw[aN];simp
 have aQ:Bk V5 (W2.heap.size+1) 138 (C9 (J2 5)):=by rw[aP,←bC];exact Bk.new V4 _ _
 have aR:=Ac aP aE;have aH:=Ac aP aD;have cC:=Lk aP cB;have aI:=Aj bC aO;have aJ:=Aj bC aE;have aK:=Aj bC aD;have bK:w.heap.size+2≤W2.heap.size+1:=by rw[←bC];exact Nat.le_trans z2 (by rw[bC];omega)
 clear bC;obtain⟨V6,bD⟩:=F9 (D8 V5 ⟨W2.heap.size,0,none⟩ (C9 (Ex a)));have aS:=Fi 5 bD aH (by simp) rfl;have aT:=J3 bD aR (by omega);have aL:=J3 bD aQ (by omega);have cD:=Bi bD cC (by omega);obtain⟨V7,bG⟩:=F9 (D8 V6 ⟨W2.heap.size+1,0,none⟩ (C9 (Fs a)));have aA:=Fi 5 bG aL (by simp) rfl;have aU:=J3 bG aT (by omega);have aB:=J3 bG aS (by omega);have cE:=Bi bG cD (by omega);have aV:=Ee 5 aH (by simp);rw[aP,aN]at aV;have aW:=Ee 5 aL (by simp);rw[bD,aP,aN]at aW;have bT:(Ex a).length=5:=rfl;have bU:(Fs a).length=5:=rfl;go_wp2_with fail;rw[←aN,←aP,←bD,←bG];clear aV aW bT bU;obtain⟨p8,bV⟩:=F9 (W2.heap.size);rw[←bV]at aB aA aF aG bJ aI aJ aK bK;try rw[←bV]
 clear aN aP bD bG bV bA bB B2 z2 aO aE aD cB aR aH aQ cC aT aS aL cD;have S9:=Fx V7;refine Fa (fun W=>Bk W (p8) 138 (C9 (Ex a))∧Bk W (p8+1) 138 (C9 (Fs a))) ?_;refine Df (A:=?cN) [0,2] ⟨(aB.drew),(aA.drew)⟩ (fun W hW=>?cJ) ?cO;case cJ=>
  have f0:=Bk.row64 (n:=5) (hW.1) (rfl);have f2:=Bk.row64 (n:=5) (hW.2) (rfl);exact Ei
 refine J8 [zv 1 11 (H9 (Bm 5 (Ex a))),zv 3 13 (H9 (Bd a))] (by kernel_rfl) (fun W hW=>⟨(aB.drew.bl hW),(aA.drew.bl hW)⟩) ?bL ?bM ?bN;case bL=>exact Ln
 case bM=>
  refine (P5 ⟨?bX,(P5 ⟨?bY,Kh⟩)⟩);case bX=>
   exact Tq fun W=>Cn (Ex a) rfl 5 (by decide) W
  case bY=>exact Jt fun W=>M8 (Bm 5 (Ex a)) (Fs a) rfl rfl W
 case bN=>
 intro us cK cF hg bZ cL;have cG:us 1=(H9 (Bm 5 (Ex a))):=hg _ (O8 0 rfl);have cH:us 3=(H9 (Bd a)):=hg _ (O8 1 rfl);have bO:=K9 S9 cF;refine Pv ?_;rw[cG,cH];clear hg bZ cL cG cH cF S9;have cI:=K9 cE bO;have aM:=aU.bl bO;have aX:=aB.bl bO;have aY:=aA.bl bO;clear bO cE aU aB aA;obtain⟨cP,aC⟩:=F9 (D8 cK ⟨w.heap.size+1,0,none⟩ (C9 (Bd a)));have bP:=Fi 5 aC aM (by simp) rfl;have bQ:=J3 aC aX (by omega);have bR:=J3 aC aY (by omega);have cM:=Bi aC cI (by omega);have bE:=Ee 5 aM (by simp);have bF:(Bd a).length=5:=rfl;refine U7 4 fun Q' hQ'=>?_;dsimp only[F0];go_wp2_with fail;rw[←aC];refine hQ' _ _ ⟨bQ,bR⟩ ?_;clear hQ' bE bF;clear aC cI aM aX aY;refine Ef ?_;go_wp2_with fail;have cA:(Bd a).length=5:=rfl;refine bodyPost_ret (E5 rfl _ _ _ _ _ _ rfl bP Q9 rfl (by simp[Z6,cA])) rfl ⟨rfl,cM⟩
end Go.Proofs.YtlegpkdighoflaaGreat
