/- A part of the proof of DirOrder. -/
import Derived.Test.YtlegpkdighoflaaGreatQag
import Derived.Test.YtlegpkdighoflaaGreatQai
set_option linter.unusedVariables false
set_option linter.unusedSimpArgs false
set_option maxRecDepth 100000
set_option maxHeartbeats 40000000
namespace Go.Proofs.YtlegpkdighoflaaGreat
open Go Go.RowKit Sh
def M2:World→List (TypeId×List Value)→World
 | w,[]=>w
 | w,x::l=>M2 (w.alloc (.cells x.2.toArray x.1)) l
theorem Dw:∀(l:List (TypeId×List Value)) (w:World),Below w.heap.size w (M2 w l)
 | [],w=>Below.refl _ _
 | x::l,w=>(Bi _ _).trans ((Dw l _).mono (by simp))
theorem Oa:∀(l:List (TypeId×List Value)) (w:World),(M2 w l).heap.size=w.heap.size+l.length
 | [],w=>rfl
 | x::l,w=>by rw[M2,Oa l];simp;omega
theorem Z5:∀(l:List (TypeId×List Value)) (w:World) (i:Nat) (t:TypeId) (cs:List Value),l[i]?=some (t,cs)→Bk (M2 w l) (w.heap.size+i) t cs
 | [],_,_,_,_,h=>by simp at h
 | x::l,w,0,t,cs,h=>by
  simp only[List.getElem?_cons_zero,Option.some.injEq]at h;subst h;exact (Bk.new w t cs).below (Dw l _) (by simp)
 | x::l,w,i+1,t,cs,h=>by
  have:=Z5 l (w.alloc (.cells x.2.toArray x.1)) i t cs (by simpa using h);rw[M2];have e:(w.alloc (.cells x.2.toArray x.1)).heap.size+i=w.heap.size+(i+1):=by simp;omega
  rwa [e]at this
theorem Rp (t0 t1 t2 t3 t4:List UInt64) (h0:t0.length=2) (h1:t1.length=2) (h2:t2.length=2) (h3:t3.length=2) (h4:t4.length=2) (w:World):Calls Tryz.prog 133 #[H7 t0,H7 t1,H7 t2,H7 t3,H7 t4] w fun e w'=>e=.returned (H7 (Lu t0 t1 t2 t3 t4))∧Below w.heap.size w w':=by
 obtain⟨W0,aA⟩:=H8 (((((((w.alloc (Obj.cells (C9 t0).toArray 211)).alloc (Obj.cells (C9 t1).toArray 211)).alloc (Obj.cells (C9 t2).toArray 211)).alloc (Obj.cells (C9 t3).toArray 211)).alloc (Obj.cells (C9 t4).toArray 211)).alloc (Obj.cells (C9 (I3 5)).toArray 138)));have hL:W0=M2 w [(211,C9 t0),(211,C9 t1),(211,C9 t2),(211,C9 t3),(211,C9 t4),(138,C9 (I3 5))]:=aA;have B0:Below w.heap.size w W0:=by rw[hL];exact Dw _ _
 have K0:Bk W0 (w.heap.size+0) 211 (C9 t0):=by rw[hL];exact Z5 _ w 0 _ _ rfl
 have K1:Bk W0 (w.heap.size+1) 211 (C9 t1):=by rw[hL];exact Z5 _ w 1 _ _ rfl
 have K2:Bk W0 (w.heap.size+2) 211 (C9 t2):=by rw[hL];exact Z5 _ w 2 _ _ rfl
 have K3:Bk W0 (w.heap.size+3) 211 (C9 t3):=by rw[hL];exact Z5 _ w 3 _ _ rfl
 have K4:Bk W0 (w.heap.size+4) 211 (C9 t4):=by rw[hL];exact Z5 _ w 4 _ _ rfl
 have R0:Bk W0 (w.heap.size+5) 138 (C9 (I3 5)):=by rw[hL];exact Z5 _ w 5 _ _ rfl
 clear hL;rw[Nat.add_zero]at K0;go_enter Tryz.func133,Tryz.ntmps133;go_wp2_with fail;rw[←aA];clear aA;have S0:=Eo W0;refine Dm (fun W=>Below W0.heap.size W0 W) ?_;refine Cf (A:=?aE) [0,2,4,6,8] S0 (fun W hW=>?aB) ?aF;case aB=>
  have r0:=(K0.bl hW).row64 h0;have r1:=(K1.bl hW).row64 h1;have r2:=(K2.bl hW).row64 h2;have r3:=(K3.bl hW).row64 h3;have r4:=(K4.bl hW).row64 h4;exact Dd
 refine U0 1 fun Q' hQ'=>?_;dsimp only[F8];go_wp2_with fail;refine (Ni t0 h0 W0.drew).mono ?_;rintro e w1 ⟨rfl,b1⟩;have S1:=S0.trans b1;go_wp2_with fail;refine hQ' _ _ S1 ?_;clear hQ';refine U0 3 fun Q' hQ'=>?_;dsimp only[F8];go_wp2_with fail;refine (Ni t1 h1 w1).mono ?_;rintro e w2 ⟨rfl,b2⟩;have S2:=J5 S1 b2;go_wp2_with fail;refine hQ' _ _ S2 ?_;clear hQ';refine U0 5 fun Q' hQ'=>?_;dsimp only[F8];go_wp2_with fail;refine (Ni t2 h2 w2).mono ?_;rintro e w3 ⟨rfl,b3⟩;have S3:=J5 S2 b3;go_wp2_with fail;refine hQ' _ _ S3 ?_;clear hQ';refine U0 7 fun Q' hQ'=>?_;dsimp only[F8];go_wp2_with fail;refine (Ni t3 h3 w3).mono ?_;rintro e w4 ⟨rfl,b4⟩;have S4:=J5 S3 b4;go_wp2_with fail;refine hQ' _ _ S4 ?_;clear hQ';refine U0 9 fun Q' hQ'=>?_;dsimp only[F8];go_wp2_with fail;refine (Ni t4 h4 w4).mono ?_;rintro e w5 ⟨rfl,b5⟩;have S5:=J5 S4 b5;go_wp2_with fail;refine hQ' _ _ S5 ?_;clear hQ';refine Cf (A:=?aG) [10,11,12,13,14] S5 (fun W hW=>?aC) ?aH;case aC=>
  simp only[List.append_eq,Vq,Bv,Sb];repeat (go_big_quiet_step (fail))
  refine wpQuiet_nil ?_;rfl
 refine Cu ?_;have KS:∀ {g:Nat} {t:TypeId} {cs:List Value},Bk W0 g t cs→Bk w5 g t cs:=fun h=>h.bl S5;have k0:=(KS K0).at_ (J1 (l:=t0) (i:=1) (by omega));have k1:=(KS K1).at_ (J1 (l:=t1) (i:=1) (by omega));have k2:=(KS K2).at_ (J1 (l:=t2) (i:=1) (by omega));have k3:=(KS K3).at_ (J1 (l:=t3) (i:=1) (by omega));have k4:=(KS K4).at_ (J1 (l:=t4) (i:=1) (by omega));go_wp2_with fail;refine (Hv (B6j t0 t1 t2 t3 t4) (by simp) w5).mono ?_;rintro e w6 ⟨rfl,b6⟩;have R6:=(KS R0).below b6 (KS R0).lt;have B6:=J5 (E8 B0 S5 B0.size) b6;have aD:=Fu 5 R6 (by simp);clear KS;go_wp2_with fail;refine bodyPost_ret (E5 rfl _ _ _ _ _ _ rfl (R6.puts (vs:=C9 (Ek (B6j t0 t1 t2 t3 t4))) (by simp)) P4 rfl (by simp[X8])) rfl ⟨rfl,C5 B6 (by show w.heap.size≤w.heap.size+5;omega) _⟩
def Qz (a b:List UInt64):List UInt64:=J7 (J7 (J7 (J7 (Z2 (E9 a 0) (E9 b 0)) (19*E9 a 1) (E9 b 4)) (19*E9 a 2) (E9 b 3)) (19*E9 a 3) (E9 b 2)) (19*E9 a 4) (E9 b 1)
@[simp, go_sem] theorem B9j (a b : List UInt64) : (Qz a b).length = 2 := rfl
def Rj (a b:List UInt64):List UInt64:=J7 (J7 (J7 (J7 (Z2 (E9 a 0) (E9 b 1)) (E9 a 1) (E9 b 0)) (19*E9 a 2) (E9 b 4)) (19*E9 a 3) (E9 b 3)) (19*E9 a 4) (E9 b 2)
@[simp, go_sem] theorem B9h (a b : List UInt64) : (Rj a b).length = 2 := rfl
def Qs (a b:List UInt64):List UInt64:=J7 (J7 (J7 (J7 (Z2 (E9 a 0) (E9 b 2)) (E9 a 1) (E9 b 1)) (E9 a 2) (E9 b 0)) (19*E9 a 3) (E9 b 4)) (19*E9 a 4) (E9 b 3)
@[simp, go_sem] theorem B9l (a b : List UInt64) : (Qs a b).length = 2 := rfl
def Qr (a b:List UInt64):List UInt64:=J7 (J7 (J7 (J7 (Z2 (E9 a 0) (E9 b 3)) (E9 a 1) (E9 b 2)) (E9 a 2) (E9 b 1)) (E9 a 3) (E9 b 0)) (19*E9 a 4) (E9 b 4)
@[simp, go_sem] theorem B9n (a b : List UInt64) : (Qr a b).length = 2 := rfl
def Rk (a b:List UInt64):List UInt64:=J7 (J7 (J7 (J7 (Z2 (E9 a 0) (E9 b 4)) (E9 a 1) (E9 b 3)) (E9 a 2) (E9 b 2)) (E9 a 3) (E9 b 1)) (E9 a 4) (E9 b 0)
@[simp, go_sem] theorem B9m (a b : List UInt64) : (Rk a b).length = 2 := rfl
def C4 (a b:List UInt64):List UInt64:=Lu (Qz a b) (Rj a b) (Qs a b) (Qr a b) (Rk a b)
@[simp, go_sem] theorem C3x (a b : List UInt64) : (C4 a b).length = 5 := rfl
theorem J9 (a b:List UInt64) (ha:a.length=5) (hb:b.length=5) (w:World):Calls Tryz.prog 102 #[H7 a,H7 b] w fun e w'=>e=.returned (H7 (C4 a b))∧Below w.heap.size w w':=by
 obtain⟨W0,eK⟩:=H8 ((((w.alloc (Obj.cells (C9 a).toArray 138)).alloc (Obj.cells (C9 b).toArray 138)).alloc (Obj.cells (C9 (I3 5)).toArray 138)));have hL:W0=M2 w [(138,C9 a),(138,C9 b),(138,C9 (I3 5))]:=eK;have B0:Below w.heap.size w W0:=by rw[hL];exact Dw _ _
 have K0:Bk W0 w.heap.size 138 (C9 a):=by rw[hL];exact Z5 _ w 0 _ _ rfl
 have L0:Bk W0 (w.heap.size+1) 138 (C9 b):=by rw[hL];exact Z5 _ w 1 _ _ rfl
 have R0:Bk W0 (w.heap.size+2) 138 (C9 (I3 5)):=by rw[hL];exact Z5 _ w 2 _ _ rfl
 clear hL;have gV:=K0.at_ (J1 (l:=a) (i:=0) (by omega));have gW:=K0.at_ (J1 (l:=a) (i:=1) (by omega));have gX:=K0.at_ (J1 (l:=a) (i:=2) (by omega));have gY:=K0.at_ (J1 (l:=a) (i:=3) (by omega));have gZ:=K0.at_ (J1 (l:=a) (i:=4) (by omega));have eL:=L0.at_ (J1 (l:=b) (i:=0) (by omega));have eM:=L0.at_ (J1 (l:=b) (i:=1) (by omega));have eN:=L0.at_ (J1 (l:=b) (i:=2) (by omega));have eO:=L0.at_ (J1 (l:=b) (i:=3) (by omega));have eP:=L0.at_ (J1 (l:=b) (i:=4) (by omega));go_enter Tryz.func102,Tryz.ntmps102;go_wp2_with fail;rw[←eK];clear eK;go_quiet (fail);obtain⟨W1,aD⟩:=H8 (W0.drewN nq);rw[←aD];have B1:Below w.heap.size w W1:=by rw[aD];exact Q2 B0 _
 have R1:Bk W1 (w.heap.size+2) 138 (C9 (I3 5)):=by rw[aD];exact R0
 have hE:W1.cell? ⟨w.heap.size+1,0,none⟩=some (.int .u64 (J0 (E9 b 0))):=by rw[aD];exact eL
 have hF:W1.cell? ⟨w.heap.size+1,1,none⟩=some (.int .u64 (J0 (E9 b 1))):=by rw[aD];exact eM
 have hG:W1.cell? ⟨w.heap.size+1,2,none⟩=some (.int .u64 (J0 (E9 b 2))):=by rw[aD];exact eN
 have hJ:W1.cell? ⟨w.heap.size+1,3,none⟩=some (.int .u64 (J0 (E9 b 3))):=by rw[aD];exact eO
 have hY:W1.cell? ⟨w.heap.size+1,4,none⟩=some (.int .u64 (J0 (E9 b 4))):=by rw[aD];exact eP
 clear aD gV gW gX gY gZ eL eM eN eO eP K0 L0 R0 B0;go_wp2_with fail;go_quiet (fail);obtain⟨W2,eD⟩:=H8 (W1.drewN nq);rw[←eD];have B2:Below w.heap.size w W2:=by rw[eD];exact Q2 B1 _
 have R2:Bk W2 (w.heap.size+2) 138 (C9 (I3 5)):=by rw[eD];exact R1
 clear eD hE hF hG hJ hY R1 B1;go_wp2_with fail;refine (Q6 (E9 a 0) (E9 b 0) W2).mono ?_;rintro e w3 ⟨rfl,b3⟩;have B3:=J5 B2 b3;have R3:=R2.bl b3;clear b3 R2 B2;go_wp2_with fail;refine (P8 (Z2 (E9 a 0) (E9 b 0)) rfl (19*E9 a 1) (E9 b 4) w3).mono ?_;rintro e w4 ⟨rfl,b4⟩;have B4:=J5 B3 b4;have R4:=R3.bl b4;clear b4 R3 B3;go_wp2_with fail;refine (P8 (J7 (Z2 (E9 a 0) (E9 b 0)) (19*E9 a 1) (E9 b 4)) rfl (19*E9 a 2) (E9 b 3) w4).mono ?_;rintro e w5 ⟨rfl,b5⟩;have B5:=J5 B4 b5;have R5:=R4.bl b5;clear b5 R4 B4;go_wp2_with fail;refine (P8 (J7 (J7 (Z2 (E9 a 0) (E9 b 0)) (19*E9 a 1) (E9 b 4)) (19*E9 a 2) (E9 b 3)) rfl (19*E9 a 3) (E9 b 2) w5).mono ?_;rintro e w6 ⟨rfl,b6⟩;have B6:=J5 B5 b6;have R6:=R5.bl b6;clear b6 R5 B5;go_wp2_with fail;refine (P8 (J7 (J7 (J7 (Z2 (E9 a 0) (E9 b 0)) (19*E9 a 1) (E9 b 4)) (19*E9 a 2) (E9 b 3)) (19*E9 a 3) (E9 b 2)) rfl (19*E9 a 4) (E9 b 1) w6).mono ?_;rintro e w7 ⟨rfl,b7⟩;have B7:=J5 B6 b7;have R7:=R6.bl b7;clear b7 R6 B6;rw[show J7 (J7 (J7 (J7 (Z2 (E9 a 0) (E9 b 0)) (19*E9 a 1) (E9 b 4)) (19*E9 a 2) (E9 b 3)) (19*E9 a 3) (E9 b 2)) (19*E9 a 4) (E9 b 1)=Qz a b from rfl];obtain⟨W8,eE⟩:=H8 (E0 (w7.alloc (Obj.cells (C9 (I3 2)).toArray 211)) ⟨w7.heap.size,0,none⟩ (C9 (Qz a b)));have cQ:Bk W8 w7.heap.size 211 (C9 (Qz a b)):=by rw[eE];exact Bk.fresh64 w7 _ (by simp)
 have b8:Below w7.heap.size w7 W8:=by rw[eE];exact C5 (Bi _ _) (Nat.le_refl _) _
 have B8:=J5 B7 b8;have R8:=R7.bl b8;have dJ:=Ai w7 211 (I3 2) 2 _ (by simp) rfl;obtain⟨p0,eQ⟩:=H8 (w7.heap.size);have cR:∀x y,(Calls Tryz.prog 131 #[.int .u64 (J0 x),.int .u64 (J0 y)] W8 fun e w'=>e=.returned (H7 (Z2 x y))∧Below W8.heap.size W8 w'):=fun x y=>Q6 x y W8;clear cR;clear b8 R7 B7;have eR:=Lib.hid eE;clear eE;go_wp2_with fail;rw[←eR.out];rw[←eQ]at cQ ⊢;clear eQ dJ eR;refine (Q6 (E9 a 0) (E9 b 1) W8).mono ?_;rintro e w9 ⟨rfl,b9⟩;have B9:=J5 B8 b9;have R9:=R8.bl b9;have dK:=cQ.bl b9;clear b9 R8 B8 cQ;go_wp2_with fail;refine (P8 (Z2 (E9 a 0) (E9 b 1)) rfl (E9 a 1) (E9 b 0) w9).mono ?_;rintro e iA ⟨rfl,eF⟩;have eS:=J5 B9 eF;have eT:=R9.bl eF;have aI:=dK.bl eF;clear eF R9 B9 dK;go_wp2_with fail;refine (P8 (J7 (Z2 (E9 a 0) (E9 b 1)) (E9 a 1) (E9 b 0)) rfl (19*E9 a 2) (E9 b 4) iA).mono ?_;rintro e iB ⟨rfl,eG⟩;have eU:=J5 eS eG;have eV:=eT.bl eG;have aJ:=aI.bl eG;clear eG eT eS aI;go_wp2_with fail;refine (P8 (J7 (J7 (Z2 (E9 a 0) (E9 b 1)) (E9 a 1) (E9 b 0)) (19*E9 a 2) (E9 b 4)) rfl (19*E9 a 3) (E9 b 3) iB).mono ?_;rintro e iC ⟨rfl,eH⟩;have eW:=J5 eU eH;have eX:=eV.bl eH;have aK:=aJ.bl eH;clear eH eV eU aJ;go_wp2_with fail;refine (P8 (J7 (J7 (J7 (Z2 (E9 a 0) (E9 b 1)) (E9 a 1) (E9 b 0)) (19*E9 a 2) (E9 b 4)) (19*E9 a 3) (E9 b 3)) rfl (19*E9 a 4) (E9 b 2) iC).mono ?_
 rintro e aL ⟨rfl,eI⟩;have eY:=J5 eW eI;have eZ:=eX.bl eI;have aM:=aK.bl eI;clear eI eX eW aK;rw[show J7 (J7 (J7 (J7 (Z2 (E9 a 0) (E9 b 1)) (E9 a 1) (E9 b 0)) (19*E9 a 2) (E9 b 4)) (19*E9 a 3) (E9 b 3)) (19*E9 a 4) (E9 b 2)=Rj a b from rfl];obtain⟨cS,aE⟩:=H8 (E0 (aL.alloc (Obj.cells (C9 (I3 2)).toArray 211)) ⟨aL.heap.size,0,none⟩ (C9 (Rj a b)));have aA:Bk cS aL.heap.size 211 (C9 (Rj a b)):=by rw[aE];exact Bk.fresh64 aL _ (by simp)
 have eJ:Below aL.heap.size aL cS:=by rw[aE];exact C5 (Bi _ _) (Nat.le_refl _) _
 have fD:=J5 eY eJ;have fE:=eZ.bl eJ;have aN:=aM.bl eJ;have dL:=Ai aL 211 (I3 2) 2 _ (by simp) rfl;obtain⟨p1,fF⟩:=H8 (aL.heap.size);have cR:∀x y,(Calls Tryz.prog 131 #[.int .u64 (J0 x),.int .u64 (J0 y)] cS fun e w'=>e=.returned (H7 (Z2 x y))∧Below cS.heap.size cS w'):=fun x y=>Q6 x y cS;clear cR;clear eJ eZ eY aM;have dM:=Lib.hid aE;clear aE;go_wp2_with fail;rw[←dM.out];rw[←fF]at aA ⊢;clear fF dL dM;refine (Q6 (E9 a 0) (E9 b 2) cS).mono ?_;rintro e iD ⟨rfl,dN⟩;have fG:=J5 fD dN;have fH:=fE.bl dN;have aO:=aN.bl dN;have aP:=aA.bl dN;clear dN fE fD aN aA;go_wp2_with fail;refine (P8 (Z2 (E9 a 0) (E9 b 2)) rfl (E9 a 1) (E9 b 1) iD).mono ?_;rintro e iE ⟨rfl,dO⟩;have fI:=J5 fG dO;have fJ:=fH.bl dO;have aQ:=aO.bl dO;have aR:=aP.bl dO;clear dO fH fG aO aP;go_wp2_with fail;refine (P8 (J7 (Z2 (E9 a 0) (E9 b 2)) (E9 a 1) (E9 b 1)) rfl (E9 a 2) (E9 b 0) iE).mono ?_;rintro e iF ⟨rfl,dP⟩;have fK:=J5 fI dP;have fL:=fJ.bl dP;have aS:=aQ.bl dP;have aT:=aR.bl dP;clear dP fJ fI aQ aR;go_wp2_with fail;refine (P8 (J7 (J7 (Z2 (E9 a 0) (E9 b 2)) (E9 a 1) (E9 b 1)) (E9 a 2) (E9 b 0)) rfl (19*E9 a 3) (E9 b 4) iF).mono ?_;rintro e iG ⟨rfl,dQ⟩;have fM:=J5 fK dQ;have fN:=fL.bl dQ;have aU:=aS.bl dQ;have aV:=aT.bl dQ;clear dQ fL fK aS aT
 go_wp2_with fail;refine (P8 (J7 (J7 (J7 (Z2 (E9 a 0) (E9 b 2)) (E9 a 1) (E9 b 1)) (E9 a 2) (E9 b 0)) (19*E9 a 3) (E9 b 4)) rfl (19*E9 a 4) (E9 b 3) iG).mono ?_;rintro e aW ⟨rfl,dR⟩;have fO:=J5 fM dR;have fP:=fN.bl dR;have aX:=aU.bl dR;have aY:=aV.bl dR;clear dR fN fM aU aV;rw[show J7 (J7 (J7 (J7 (Z2 (E9 a 0) (E9 b 2)) (E9 a 1) (E9 b 1)) (E9 a 2) (E9 b 0)) (19*E9 a 3) (E9 b 4)) (19*E9 a 4) (E9 b 3)=Qs a b from rfl];obtain⟨cT,aF⟩:=H8 (E0 (aW.alloc (Obj.cells (C9 (I3 2)).toArray 211)) ⟨aW.heap.size,0,none⟩ (C9 (Qs a b)));have aB:Bk cT aW.heap.size 211 (C9 (Qs a b)):=by rw[aF];exact Bk.fresh64 aW _ (by simp)
 have dS:Below aW.heap.size aW cT:=by rw[aF];exact C5 (Bi _ _) (Nat.le_refl _) _
 have fQ:=J5 fO dS;have fR:=fP.bl dS;have aZ:=aX.bl dS;have bA:=aY.bl dS;have dT:=Ai aW 211 (I3 2) 2 _ (by simp) rfl;obtain⟨p2,fS⟩:=H8 (aW.heap.size);have cR:∀x y,(Calls Tryz.prog 131 #[.int .u64 (J0 x),.int .u64 (J0 y)] cT fun e w'=>e=.returned (H7 (Z2 x y))∧Below cT.heap.size cT w'):=fun x y=>Q6 x y cT;clear cR;clear dS fP fO aX aY;have dU:=Lib.hid aF;clear aF;go_wp2_with fail;rw[←dU.out];rw[←fS]at aB ⊢;clear fS dT dU;refine (Q6 (E9 a 0) (E9 b 3) cT).mono ?_;rintro e iH ⟨rfl,dD⟩;have fT:=J5 fQ dD;have fU:=fR.bl dD;have bB:=aZ.bl dD;have bC:=bA.bl dD;have bD:=aB.bl dD;clear dD fR fQ aZ bA aB;go_wp2_with fail;refine (P8 (Z2 (E9 a 0) (E9 b 3)) rfl (E9 a 1) (E9 b 2) iH).mono ?_;rintro e iI ⟨rfl,dE⟩;have fV:=J5 fT dE;have fW:=fU.bl dE;have bE:=bB.bl dE;have bF:=bC.bl dE;have bG:=bD.bl dE;clear dE fU fT bB bC bD;go_wp2_with fail;refine (P8 (J7 (Z2 (E9 a 0) (E9 b 3)) (E9 a 1) (E9 b 2)) rfl (E9 a 2) (E9 b 1) iI).mono ?_;rintro e iJ ⟨rfl,dF⟩;have fX:=J5 fV dF;have fY:=fW.bl dF;have bH:=bE.bl dF;have bI:=bF.bl dF;have bJ:=bG.bl dF;clear dF fW fV bE bF bG;go_wp2_with fail;refine (P8 (J7 (J7 (Z2 (E9 a 0) (E9 b 3)) (E9 a 1) (E9 b 2)) (E9 a 2) (E9 b 1)) rfl (E9 a 3) (E9 b 0) iJ).mono ?_;rintro e iK ⟨rfl,dG⟩
 have fZ:=J5 fX dG;have gD:=fY.bl dG;have bK:=bH.bl dG;have bL:=bI.bl dG;have bM:=bJ.bl dG;clear dG fY fX bH bI bJ;go_wp2_with fail;refine (P8 (J7 (J7 (J7 (Z2 (E9 a 0) (E9 b 3)) (E9 a 1) (E9 b 2)) (E9 a 2) (E9 b 1)) (E9 a 3) (E9 b 0)) rfl (19*E9 a 4) (E9 b 4) iK).mono ?_;rintro e bN ⟨rfl,dH⟩;have gE:=J5 fZ dH;have gF:=gD.bl dH;have bO:=bK.bl dH;have bP:=bL.bl dH;have bQ:=bM.bl dH;clear dH gD fZ bK bL bM;rw[show J7 (J7 (J7 (J7 (Z2 (E9 a 0) (E9 b 3)) (E9 a 1) (E9 b 2)) (E9 a 2) (E9 b 1)) (E9 a 3) (E9 b 0)) (19*E9 a 4) (E9 b 4)=Qr a b from rfl];obtain⟨cU,aG⟩:=H8 (E0 (bN.alloc (Obj.cells (C9 (I3 2)).toArray 211)) ⟨bN.heap.size,0,none⟩ (C9 (Qr a b)));have aC:Bk cU bN.heap.size 211 (C9 (Qr a b)):=by rw[aG];exact Bk.fresh64 bN _ (by simp)
 have dI:Below bN.heap.size bN cU:=by rw[aG];exact C5 (Bi _ _) (Nat.le_refl _) _
 have gG:=J5 gE dI;have gH:=gF.bl dI;have bR:=bO.bl dI;have bS:=bP.bl dI;have bT:=bQ.bl dI;have dV:=Ai bN 211 (I3 2) 2 _ (by simp) rfl;obtain⟨p3,gI⟩:=H8 (bN.heap.size);have cR:∀x y,(Calls Tryz.prog 131 #[.int .u64 (J0 x),.int .u64 (J0 y)] cU fun e w'=>e=.returned (H7 (Z2 x y))∧Below cU.heap.size cU w'):=fun x y=>Q6 x y cU;clear cR;clear dI gF gE bO bP bQ;have dW:=Lib.hid aG;clear aG;go_wp2_with fail;rw[←dW.out];rw[←gI]at aC ⊢;clear gI dV dW;refine (Q6 (E9 a 0) (E9 b 4) cU).mono ?_;rintro e iL ⟨rfl,cV⟩;have gJ:=J5 gG cV;have gK:=gH.bl cV;have bU:=bR.bl cV;have bV:=bS.bl cV;have bX:=bT.bl cV;have bY:=aC.bl cV;clear cV gH gG bR bS bT aC;go_wp2_with fail;refine (P8 (Z2 (E9 a 0) (E9 b 4)) rfl (E9 a 1) (E9 b 3) iL).mono ?_;rintro e iM ⟨rfl,cW⟩;have gL:=J5 gJ cW;have gM:=gK.bl cW;have bZ:=bU.bl cW;have cA:=bV.bl cW;have cB:=bX.bl cW;have cC:=bY.bl cW;clear cW gK gJ bU bV bX bY;go_wp2_with fail;refine (P8 (J7 (Z2 (E9 a 0) (E9 b 4)) (E9 a 1) (E9 b 3)) rfl (E9 a 2) (E9 b 2) iM).mono ?_;rintro e iN ⟨rfl,cX⟩;have gN:=J5 gL cX;have gO:=gM.bl cX;have cD:=bZ.bl cX;have cE:=cA.bl cX;have cF:=cB.bl cX;have cG:=cC.bl cX;clear cX gM gL bZ cA cB cC;go_wp2_with fail
 refine (P8 (J7 (J7 (Z2 (E9 a 0) (E9 b 4)) (E9 a 1) (E9 b 3)) (E9 a 2) (E9 b 2)) rfl (E9 a 3) (E9 b 1) iN).mono ?_;rintro e iO ⟨rfl,cY⟩;have gP:=J5 gN cY;have gQ:=gO.bl cY;have cH:=cD.bl cY;have cI:=cE.bl cY;have cJ:=cF.bl cY;have cK:=cG.bl cY;clear cY gO gN cD cE cF cG;go_wp2_with fail;refine (P8 (J7 (J7 (J7 (Z2 (E9 a 0) (E9 b 4)) (E9 a 1) (E9 b 3)) (E9 a 2) (E9 b 2)) (E9 a 3) (E9 b 1)) rfl (E9 a 4) (E9 b 0) iO).mono ?_;rintro e cL ⟨rfl,cZ⟩;have gR:=J5 gP cZ;have gS:=gQ.bl cZ;have cM:=cH.bl cZ;have cN:=cI.bl cZ;have cO:=cJ.bl cZ;have cP:=cK.bl cZ;clear cZ gQ gP cH cI cJ cK;rw[show J7 (J7 (J7 (J7 (Z2 (E9 a 0) (E9 b 4)) (E9 a 1) (E9 b 3)) (E9 a 2) (E9 b 2)) (E9 a 3) (E9 b 1)) (E9 a 4) (E9 b 0)=Rk a b from rfl];obtain⟨Mx,aH⟩:=H8 (E0 (cL.alloc (Obj.cells (C9 (I3 2)).toArray 211)) ⟨cL.heap.size,0,none⟩ (C9 (Rk a b)));have dX:Bk Mx cL.heap.size 211 (C9 (Rk a b)):=by rw[aH];exact Bk.fresh64 cL _ (by simp)
 have dB:Below cL.heap.size cL Mx:=by rw[aH];exact C5 (Bi _ _) (Nat.le_refl _) _
 have iP:=J5 gR dB;have iQ:=gS.bl dB;have dY:=cM.bl dB;have dZ:=cN.bl dB;have eA:=cO.bl dB;have eB:=cP.bl dB;have eC:=Ai cL 211 (I3 2) 2 _ (by simp) rfl;obtain⟨p4,iR⟩:=H8 (cL.heap.size);clear dB gS gR cM cN cO cP;have dC:=Lib.hid aH;clear aH;have q0:=dY.row64 (n:=2) (by simp);have q1:=dZ.row64 (n:=2) (by simp);have q2:=eA.row64 (n:=2) (by simp);have q3:=eB.row64 (n:=2) (by simp);have q4:=dX.row64 (n:=2) (by simp);clear iR;rw[dC.out]at q0 q1 q2 q3 q4;go_wp2_with fail;rw[←dC.out];clear q0 q1 q2 q3 q4 eC dC;refine (Rp (Qz a b) (Rj a b) (Qs a b) (Qr a b) (Rk a b) rfl rfl rfl rfl rfl Mx).mono ?_;rintro e iU ⟨rfl,gT⟩;have gU:=iQ.bl gT;have iS:=J5 iP gT;have iT:=Fu 5 gU (by simp);go_wp2_with fail;refine bodyPost_ret (E5 rfl _ _ _ _ _ _ rfl (gU.puts (vs:=C9 (C4 a b)) (by simp)) P4 rfl (by simp[X8])) rfl ⟨rfl,C5 iS (by show w.heap.size≤w.heap.size+2;omega) _⟩
def Yh (a:List UInt64):List UInt64:=J7 (J7 (Z2 (E9 a 0) (E9 a 0)) (2*E9 a 1) (19*E9 a 4)) (2*E9 a 2) (19*E9 a 3)
@[simp, go_sem] theorem C2n (a : List UInt64) : (Yh a).length = 2 := rfl
def Wu (a:List UInt64):List UInt64:=J7 (J7 (Z2 (2*E9 a 0) (E9 a 1)) (2*E9 a 2) (19*E9 a 4)) (E9 a 3) (19*E9 a 3)
@[simp, go_sem] theorem C2k (a : List UInt64) : (Wu a).length = 2 := rfl
def Yq (a:List UInt64):List UInt64:=J7 (J7 (Z2 (2*E9 a 0) (E9 a 2)) (E9 a 1) (E9 a 1)) (2*E9 a 3) (19*E9 a 4)
@[simp, go_sem] theorem C0i (a : List UInt64) : (Yq a).length = 2 := rfl
def Xy (a:List UInt64):List UInt64:=J7 (J7 (Z2 (2*E9 a 0) (E9 a 3)) (2*E9 a 1) (E9 a 2)) (E9 a 4) (19*E9 a 4)
@[simp, go_sem] theorem C3e (a : List UInt64) : (Xy a).length = 2 := rfl
def Yp (a:List UInt64):List UInt64:=J7 (J7 (Z2 (2*E9 a 0) (E9 a 4)) (2*E9 a 1) (E9 a 3)) (E9 a 2) (E9 a 2)
@[simp, go_sem] theorem C0h (a : List UInt64) : (Yp a).length = 2 := rfl
def Mw (a:List UInt64):List UInt64:=Lu (Yh a) (Wu a) (Yq a) (Xy a) (Yp a)
@[simp, go_sem] theorem C7m (a : List UInt64) : (Mw a).length = 5 := rfl
theorem Pv (a:List UInt64) (ha:a.length=5) (w:World):Calls Tryz.prog 148 #[H7 a] w fun e w'=>e=.returned (H7 (Mw a))∧Below w.heap.size w w':=by
 obtain⟨W0,dB⟩:=H8 (((w.alloc (Obj.cells (C9 a).toArray 138)).alloc (Obj.cells (C9 (I3 5)).toArray 138)));have hL:W0=M2 w [(138,C9 a),(138,C9 (I3 5))]:=dB;have B0:Below w.heap.size w W0:=by rw[hL];exact Dw _ _
 have K0:Bk W0 w.heap.size 138 (C9 a):=by rw[hL];exact Z5 _ w 0 _ _ rfl
 have R0:Bk W0 (w.heap.size+1) 138 (C9 (I3 5)):=by rw[hL];exact Z5 _ w 1 _ _ rfl
 clear hL;have eH:=K0.at_ (J1 (l:=a) (i:=0) (by omega));have eI:=K0.at_ (J1 (l:=a) (i:=1) (by omega));have eJ:=K0.at_ (J1 (l:=a) (i:=2) (by omega));have eK:=K0.at_ (J1 (l:=a) (i:=3) (by omega));have eL:=K0.at_ (J1 (l:=a) (i:=4) (by omega));go_enter Tryz.func148,Tryz.ntmps148;go_wp2_with fail;rw[←dB];clear dB;go_quiet (fail);obtain⟨W1,cX⟩:=H8 (W0.drewN nq);rw[←cX];have B1:Below w.heap.size w W1:=by rw[cX];exact Q2 B0 _
 have R1:Bk W1 (w.heap.size+1) 138 (C9 (I3 5)):=by rw[cX];exact R0
 clear cX eH eI eJ eK eL K0 R0 B0;go_wp2_with fail;refine (Q6 (E9 a 0) (E9 a 0) W1).mono ?_;rintro e w2 ⟨rfl,b2⟩;have B2:=J5 B1 b2;have R2:=R1.bl b2;clear b2 R1 B1;go_wp2_with fail;refine (P8 (Z2 (E9 a 0) (E9 a 0)) rfl (2*E9 a 1) (19*E9 a 4) w2).mono ?_;rintro e w3 ⟨rfl,b3⟩;have B3:=J5 B2 b3;have R3:=R2.bl b3;clear b3 R2 B2;go_wp2_with fail;refine (P8 (J7 (Z2 (E9 a 0) (E9 a 0)) (2*E9 a 1) (19*E9 a 4)) rfl (2*E9 a 2) (19*E9 a 3) w3).mono ?_;rintro e w4 ⟨rfl,b4⟩;have B4:=J5 B3 b4;have R4:=R3.bl b4;clear b4 R3 B3;rw[show J7 (J7 (Z2 (E9 a 0) (E9 a 0)) (2*E9 a 1) (19*E9 a 4)) (2*E9 a 2) (19*E9 a 3)=Yh a from rfl];obtain⟨W5,cY⟩:=H8 (E0 (w4.alloc (Obj.cells (C9 (I3 2)).toArray 211)) ⟨w4.heap.size,0,none⟩ (C9 (Yh a)));have bO:Bk W5 w4.heap.size 211 (C9 (Yh a)):=by rw[cY];exact Bk.fresh64 w4 _ (by simp)
 have b5:Below w4.heap.size w4 W5:=by rw[cY];exact C5 (Bi _ _) (Nat.le_refl _) _
 have B5:=J5 B4 b5;have R5:=R4.bl b5;have cD:=Ai w4 211 (I3 2) 2 _ (by simp) rfl;obtain⟨p0,dD⟩:=H8 (w4.heap.size);have bP:∀x y,(Calls Tryz.prog 131 #[.int .u64 (J0 x),.int .u64 (J0 y)] W5 fun e w'=>e=.returned (H7 (Z2 x y))∧Below W5.heap.size W5 w'):=fun x y=>Q6 x y W5;clear bP;clear b5 R4 B4;have dE:=Lib.hid cY;clear cY;go_wp2_with fail;rw[←dE.out];rw[←dD]at bO ⊢;clear dD cD dE;refine (Q6 (2*E9 a 0) (E9 a 1) W5).mono ?_;rintro e w6 ⟨rfl,b6⟩;have B6:=J5 B5 b6;have R6:=R5.bl b6;have cE:=bO.bl b6;clear b6 R5 B5 bO;go_wp2_with fail;refine (P8 (Z2 (2*E9 a 0) (E9 a 1)) rfl (2*E9 a 2) (19*E9 a 4) w6).mono ?_;rintro e w7 ⟨rfl,b7⟩;have B7:=J5 B6 b7;have R7:=R6.bl b7;have cF:=cE.bl b7;clear b7 R6 B6 cE;go_wp2_with fail;refine (P8 (J7 (Z2 (2*E9 a 0) (E9 a 1)) (2*E9 a 2) (19*E9 a 4)) rfl (E9 a 3) (19*E9 a 3) w7).mono ?_;rintro e w8 ⟨rfl,b8⟩;have B8:=J5 B7 b8;have R8:=R7.bl b8;have cG:=cF.bl b8;clear b8 R7 B7 cF;rw[show J7 (J7 (Z2 (2*E9 a 0) (E9 a 1)) (2*E9 a 2) (19*E9 a 4)) (E9 a 3) (19*E9 a 3)=Wu a from rfl];obtain⟨W9,cZ⟩:=H8 (E0 (w8.alloc (Obj.cells (C9 (I3 2)).toArray 211)) ⟨w8.heap.size,0,none⟩ (C9 (Wu a)));have bQ:Bk W9 w8.heap.size 211 (C9 (Wu a)):=by rw[cZ];exact Bk.fresh64 w8 _ (by simp)
 have b9:Below w8.heap.size w8 W9:=by rw[cZ];exact C5 (Bi _ _) (Nat.le_refl _) _
 have B9:=J5 B8 b9;have R9:=R8.bl b9;have cH:=cG.bl b9;have cI:=Ai w8 211 (I3 2) 2 _ (by simp) rfl;obtain⟨p1,dF⟩:=H8 (w8.heap.size);have bP:∀x y,(Calls Tryz.prog 131 #[.int .u64 (J0 x),.int .u64 (J0 y)] W9 fun e w'=>e=.returned (H7 (Z2 x y))∧Below W9.heap.size W9 w'):=fun x y=>Q6 x y W9;clear bP;clear b9 R8 B8 cG;have dG:=Lib.hid cZ;clear cZ;go_wp2_with fail;rw[←dG.out];rw[←dF]at bQ ⊢;clear dF cI dG;refine (Q6 (2*E9 a 0) (E9 a 2) W9).mono ?_;rintro e eM ⟨rfl,cJ⟩;have dH:=J5 B9 cJ;have dI:=R9.bl cJ;have aF:=cH.bl cJ;have aG:=bQ.bl cJ;clear cJ R9 B9 cH bQ;go_wp2_with fail;refine (P8 (Z2 (2*E9 a 0) (E9 a 2)) rfl (E9 a 1) (E9 a 1) eM).mono ?_;rintro e eN ⟨rfl,cK⟩;have dJ:=J5 dH cK;have dK:=dI.bl cK;have aH:=aF.bl cK;have aI:=aG.bl cK;clear cK dI dH aF aG;go_wp2_with fail;refine (P8 (J7 (Z2 (2*E9 a 0) (E9 a 2)) (E9 a 1) (E9 a 1)) rfl (2*E9 a 3) (19*E9 a 4) eN).mono ?_;rintro e aJ ⟨rfl,cL⟩;have dL:=J5 dJ cL;have dM:=dK.bl cL;have aK:=aH.bl cL;have aL:=aI.bl cL;clear cL dK dJ aH aI;rw[show J7 (J7 (Z2 (2*E9 a 0) (E9 a 2)) (E9 a 1) (E9 a 1)) (2*E9 a 3) (19*E9 a 4)=Yq a from rfl];obtain⟨bR,aC⟩:=H8 (E0 (aJ.alloc (Obj.cells (C9 (I3 2)).toArray 211)) ⟨aJ.heap.size,0,none⟩ (C9 (Yq a)));have aA:Bk bR aJ.heap.size 211 (C9 (Yq a)):=by rw[aC];exact Bk.fresh64 aJ _ (by simp)
 have cM:Below aJ.heap.size aJ bR:=by rw[aC];exact C5 (Bi _ _) (Nat.le_refl _) _
 have dN:=J5 dL cM;have dO:=dM.bl cM;have aM:=aK.bl cM;have aN:=aL.bl cM;have cN:=Ai aJ 211 (I3 2) 2 _ (by simp) rfl;obtain⟨p2,dP⟩:=H8 (aJ.heap.size);have bP:∀x y,(Calls Tryz.prog 131 #[.int .u64 (J0 x),.int .u64 (J0 y)] bR fun e w'=>e=.returned (H7 (Z2 x y))∧Below bR.heap.size bR w'):=fun x y=>Q6 x y bR;clear bP;clear cM dM dL aK aL;have cO:=Lib.hid aC;clear aC;go_wp2_with fail;rw[←cO.out];rw[←dP]at aA ⊢;clear dP cN cO;refine (Q6 (2*E9 a 0) (E9 a 3) bR).mono ?_;rintro e eO ⟨rfl,bZ⟩;have dQ:=J5 dN bZ;have dR:=dO.bl bZ;have aO:=aM.bl bZ;have aP:=aN.bl bZ;have aQ:=aA.bl bZ;clear bZ dO dN aM aN aA;go_wp2_with fail;refine (P8 (Z2 (2*E9 a 0) (E9 a 3)) rfl (2*E9 a 1) (E9 a 2) eO).mono ?_;rintro e eP ⟨rfl,cA⟩;have dS:=J5 dQ cA;have dT:=dR.bl cA;have aR:=aO.bl cA;have aS:=aP.bl cA;have aT:=aQ.bl cA;clear cA dR dQ aO aP aQ;go_wp2_with fail;refine (P8 (J7 (Z2 (2*E9 a 0) (E9 a 3)) (2*E9 a 1) (E9 a 2)) rfl (E9 a 4) (19*E9 a 4) eP).mono ?_;rintro e aU ⟨rfl,cB⟩;have dU:=J5 dS cB;have dV:=dT.bl cB;have aV:=aR.bl cB;have aW:=aS.bl cB;have aX:=aT.bl cB;clear cB dT dS aR aS aT;rw[show J7 (J7 (Z2 (2*E9 a 0) (E9 a 3)) (2*E9 a 1) (E9 a 2)) (E9 a 4) (19*E9 a 4)=Xy a from rfl]
 obtain⟨bS,aD⟩:=H8 (E0 (aU.alloc (Obj.cells (C9 (I3 2)).toArray 211)) ⟨aU.heap.size,0,none⟩ (C9 (Xy a)));have aB:Bk bS aU.heap.size 211 (C9 (Xy a)):=by rw[aD];exact Bk.fresh64 aU _ (by simp)
 have cC:Below aU.heap.size aU bS:=by rw[aD];exact C5 (Bi _ _) (Nat.le_refl _) _
 have dW:=J5 dU cC;have dX:=dV.bl cC;have aY:=aV.bl cC;have aZ:=aW.bl cC;have bA:=aX.bl cC;have cP:=Ai aU 211 (I3 2) 2 _ (by simp) rfl;obtain⟨p3,dY⟩:=H8 (aU.heap.size);have bP:∀x y,(Calls Tryz.prog 131 #[.int .u64 (J0 x),.int .u64 (J0 y)] bS fun e w'=>e=.returned (H7 (Z2 x y))∧Below bS.heap.size bS w'):=fun x y=>Q6 x y bS;clear bP;clear cC dV dU aV aW aX;have cQ:=Lib.hid aD;clear aD;go_wp2_with fail;rw[←cQ.out];rw[←dY]at aB ⊢;clear dY cP cQ;refine (Q6 (2*E9 a 0) (E9 a 4) bS).mono ?_;rintro e eQ ⟨rfl,bT⟩;have dZ:=J5 dW bT;have eA:=dX.bl bT;have bB:=aY.bl bT;have bC:=aZ.bl bT;have bD:=bA.bl bT;have bE:=aB.bl bT;clear bT dX dW aY aZ bA aB;go_wp2_with fail;refine (P8 (Z2 (2*E9 a 0) (E9 a 4)) rfl (2*E9 a 1) (E9 a 3) eQ).mono ?_;rintro e eR ⟨rfl,bU⟩;have eB:=J5 dZ bU;have eC:=eA.bl bU;have bF:=bB.bl bU;have bG:=bC.bl bU;have bH:=bD.bl bU;have bI:=bE.bl bU;clear bU eA dZ bB bC bD bE;go_wp2_with fail;refine (P8 (J7 (Z2 (2*E9 a 0) (E9 a 4)) (2*E9 a 1) (E9 a 3)) rfl (E9 a 2) (E9 a 2) eR).mono ?_;rintro e bJ ⟨rfl,bV⟩;have eD:=J5 eB bV;have eE:=eC.bl bV;have bK:=bF.bl bV;have bL:=bG.bl bV;have bM:=bH.bl bV;have bN:=bI.bl bV;clear bV eC eB bF bG bH bI
 rw[show J7 (J7 (Z2 (2*E9 a 0) (E9 a 4)) (2*E9 a 1) (E9 a 3)) (E9 a 2) (E9 a 2)=Yp a from rfl];obtain⟨dC,aE⟩:=H8 (E0 (bJ.alloc (Obj.cells (C9 (I3 2)).toArray 211)) ⟨bJ.heap.size,0,none⟩ (C9 (Yp a)));have cR:Bk dC bJ.heap.size 211 (C9 (Yp a)):=by rw[aE];exact Bk.fresh64 bJ _ (by simp)
 have bX:Below bJ.heap.size bJ dC:=by rw[aE];exact C5 (Bi _ _) (Nat.le_refl _) _
 have eS:=J5 eD bX;have eT:=eE.bl bX;have cS:=bK.bl bX;have cT:=bL.bl bX;have cU:=bM.bl bX;have cV:=bN.bl bX;have cW:=Ai bJ 211 (I3 2) 2 _ (by simp) rfl;obtain⟨p4,eU⟩:=H8 (bJ.heap.size);clear bX eE eD bK bL bM bN;have bY:=Lib.hid aE;clear aE;have q0:=cS.row64 (n:=2) (by simp);have q1:=cT.row64 (n:=2) (by simp);have q2:=cU.row64 (n:=2) (by simp);have q3:=cV.row64 (n:=2) (by simp);have q4:=cR.row64 (n:=2) (by simp);clear eU;rw[bY.out]at q0 q1 q2 q3 q4;go_wp2_with fail;rw[←bY.out];clear q0 q1 q2 q3 q4 cW bY;refine (Rp (Yh a) (Wu a) (Yq a) (Xy a) (Yp a) rfl rfl rfl rfl rfl dC).mono ?_;rintro e eX ⟨rfl,eF⟩;have eG:=eT.bl eF;have eV:=J5 eS eF;have eW:=Fu 5 eG (by simp);go_wp2_with fail;refine bodyPost_ret (E5 rfl _ _ _ _ _ _ rfl (eG.puts (vs:=C9 (Mw a)) (by simp)) P4 rfl (by simp[X8])) rfl ⟨rfl,C5 eV (by show w.heap.size≤w.heap.size+1;omega) _⟩
section
variable {w W : World} {l : List (TypeId × List Value)} {t : TypeId} {cs : List Value}
theorem Gs (i : Nat) (h : W = M2 w l) (e : l[i]? = some (t, cs)) : Bk W (w.heap.size + i) t cs := h ▸ Z5 _ w i _ _ e
theorem Jy (h : W = M2 w l) (e : l[0]? = some (t, cs)) : Bk W w.heap.size t cs := h ▸ Z5 _ w 0 _ _ e
theorem Jc (h : W = M2 w l) : Below w.heap.size w W := h ▸ Dw _ _
theorem Vp (n : Nat) (h : W = M2 w l) (e : l.length = n) : w.heap.size + n ≤ W.heap.size := by rw [h, Oa, e]; exact Nat.le_refl _
theorem SL' (n : Nat) (h : W = M2 w l) (e : l.length = n) : W.heap.size = w.heap.size + n := by rw [h, Oa, e]
end
def A2j (a b:List UInt64) (j:Nat):UInt64:=E9 a j+E9 b j
def Vf (a b:List UInt64) (j:Nat):UInt64:=E9 a j+(9007199254740988-E9 b j)
def C6n (a b:List UInt64):List UInt64:=Cv (A2j a b) (E9 a) 5 5
def B5p (a b:List UInt64):List UInt64:=(Cv (Vf a b) (E9 a) 5 5).set 0 (Vf a b 0-72)
@[simp, go_sem] theorem C3u (a b : List UInt64) : (C6n a b).length = 5 := rfl
@[simp, go_sem] theorem C3t (a b : List UInt64) : (B5p a b).length = 5 := rfl
def C7 (a b:List UInt64):List UInt64:=Ek (C6n a b)
def E3 (a b:List UInt64):List UInt64:=Ek (B5p a b)
@[simp, go_sem] theorem C3q (a b : List UInt64) : (C7 a b).length = 5 := rfl
@[simp, go_sem] theorem C4d (a b : List UInt64) : (E3 a b).length = 5 := rfl
def D9 (v:UInt64):List UInt64:=[v &&& 2251799813685247,v >>> 51,0,0,0]
@[simp, go_sem] theorem B9i (v : UInt64) : (D9 v).length = 5 := rfl
def Z6:Nat→List UInt64→List UInt64
 | 0,a=>a
 | n+1,a=>Mw (Z6 n a)
@[simp, go_sem] theorem A4t {a : List UInt64} (ha : a.length = 5) : ∀ n, (Z6 n a).length = 5
 | 0=>ha
 | _+1=>rfl
theorem Fi (a b:List UInt64) (ha:a.length=5) (hb:b.length=5) (w:World):Calls Tryz.prog 127 #[H7 a,H7 b] w fun e w'=>e=.returned (H7 (C7 a b))∧Below w.heap.size w w':=by
 obtain⟨W0,aA⟩:=H8 (((w.alloc (Obj.cells (C9 a).toArray 138)).alloc (Obj.cells (C9 b).toArray 138)).alloc (Obj.cells (C9 (I3 5)).toArray 138));have hL:W0=M2 w [(138,C9 a),(138,C9 b),(138,C9 (I3 5))]:=aA;have B0:=Jc hL;have A0:=Jy hL rfl;have L0:=Gs 1 hL rfl;have R0:=Gs 2 hL rfl;clear hL;go_enter Tryz.func127,Tryz.ntmps127;go_wp2_with fail;rw[←aA];clear aA;rw[←Lt (f:=A2j a b) ha]at A0;go_loopw [6] (fun t wr=>∃i:Nat,i≤5∧t=.int .i64 (i:Int)∧Bk wr w.heap.size 138 (C9 (Cv (A2j a b) (E9 a) 5 i))∧Bk wr (w.heap.size+1) 138 (C9 b)∧Bk wr (w.heap.size+2) 138 (C9 (I3 5))∧Below w.heap.size w wr) (fun t _=>5-(intOf t).toNat)
 case atStart=>exact ⟨0,by omega,rfl,A0,L0,R0,B0⟩
 case round=>
  clear A0 L0 R0 B0;obtain⟨i,hi,rfl,K,L,R,B⟩:=hrel;by_cases hlt:i<5
  ·have k0:=K.at_ (J1 (l:=Cv (A2j a b) (E9 a) 5 i) (i:=i) (by simpa using hlt));have f0:=K.frozen i;have l0:=L.at_ (J1 (l:=b) (i:=i) (by omega));rw[Fk hlt,if_neg (by omega)]at k0;have K3:=K.set_ i (.int .u64 (J0 (A2j a b i)));rw[Am,Hw (f:=A2j a b) (g:=E9 a) hlt rfl]at K3;have L3:=L.far (p:=⟨w.heap.size,i,none⟩) (by simp) (.int .u64 (J0 (A2j a b i)));have R3:=R.far (p:=⟨w.heap.size,i,none⟩) (by simp) (.int .u64 (J0 (A2j a b i)));clear K L R;go_wp2_with fail;refine Ay 11 (by kernel_rfl) (by kernel_rfl) ?_;simp only[List.take_succ_cons,List.take_zero,List.drop_succ_cons,List.drop_zero];repeat (go_big_quiet_step (fail))
   refine wpQuiet_nil ?_;rintro w6 ⟨aB,rfl⟩;go_wp2_with fail;go_roundw;case rel=>exact ⟨i+1,by omega,by go_num,K3,L3,R3,(Q2 B aB).setCell (by simp) _⟩
   case measure=>simp[intOf];omega
  ·obtain rfl:i=5:=by omega
   have e5:((5:Nat):Int)=5:=rfl;rw[e5];clear e5;have rk:=K.row64 (n:=5) (by simp);go_wp2_with fail;refine (Hv (Cv (A2j a b) (E9 a) 5 5) (by simp) wr).mono ?_;rintro e w2 ⟨rfl,b2⟩;have R2:=R.bl b2;have B2:=J5 B b2;have aC:=Fu 5 R2 (by simp);go_wp2_with fail;refine bodyPost_ret (E5 rfl _ _ _ _ _ _ rfl (R2.puts (vs:=C9 (C7 a b)) (by simp)) P4 rfl (by simp[X8])) rfl ⟨rfl,C5 B2 (by show w.heap.size≤w.heap.size+2;omega) _⟩
theorem Ea (a b:List UInt64) (ha:a.length=5) (hb:b.length=5) (w:World):Calls Tryz.prog 128 #[H7 a,H7 b] w fun e w'=>e=.returned (H7 (E3 a b))∧Below w.heap.size w w':=by
 obtain⟨W0,aB⟩:=H8 (((w.alloc (Obj.cells (C9 a).toArray 138)).alloc (Obj.cells (C9 b).toArray 138)).alloc (Obj.cells (C9 (I3 5)).toArray 138));have hL:W0=M2 w [(138,C9 a),(138,C9 b),(138,C9 (I3 5))]:=aB;have B0:=Jc hL;have A0:=Jy hL rfl;have L0:=Gs 1 hL rfl;have R0:=Gs 2 hL rfl;clear hL;go_enter Tryz.func128,Tryz.ntmps128;go_wp2_with fail;rw[←aB];clear aB;rw[←Lt (f:=Vf a b) ha]at A0;go_loopw [6] (fun t wr=>∃i:Nat,i≤5∧t=.int .i64 (i:Int)∧Bk wr w.heap.size 138 (C9 (Cv (Vf a b) (E9 a) 5 i))∧Bk wr (w.heap.size+1) 138 (C9 b)∧Bk wr (w.heap.size+2) 138 (C9 (I3 5))∧Below w.heap.size w wr) (fun t _=>5-(intOf t).toNat)
 case atStart=>exact ⟨0,by omega,rfl,A0,L0,R0,B0⟩
 case round=>
  clear A0 L0 R0 B0;obtain⟨i,hi,rfl,K,L,R,B⟩:=hrel;by_cases hlt:i<5
  ·have k0:=K.at_ (J1 (l:=Cv (Vf a b) (E9 a) 5 i) (i:=i) (by simpa using hlt));have f0:=K.frozen i;have l0:=L.at_ (J1 (l:=b) (i:=i) (by omega));rw[Fk hlt,if_neg (by omega)]at k0;have K3:=K.set_ i (.int .u64 (J0 (Vf a b i)));rw[Am,Hw (f:=Vf a b) (g:=E9 a) hlt rfl]at K3;have L3:=L.far (p:=⟨w.heap.size,i,none⟩) (by simp) (.int .u64 (J0 (Vf a b i)));have R3:=R.far (p:=⟨w.heap.size,i,none⟩) (by simp) (.int .u64 (J0 (Vf a b i)));clear K L R;go_wp2_with fail;refine Ay 12 (by kernel_rfl) (by kernel_rfl) ?_;simp only[List.take_succ_cons,List.take_zero,List.drop_succ_cons,List.drop_zero];repeat (go_big_quiet_step (fail))
   refine wpQuiet_nil ?_;rintro w6 ⟨aC,rfl⟩;go_wp2_with fail;go_roundw;case rel=>exact ⟨i+1,by omega,by go_num,K3,L3,R3,(Q2 B aC).setCell (by simp) _⟩
   case measure=>simp[intOf];omega
  ·obtain rfl:i=5:=by omega
   have e5:((5:Nat):Int)=5:=rfl;rw[e5];clear e5;have k0:=K.at_ (J1 (l:=Cv (Vf a b) (E9 a) 5 5) (i:=0) (by simp));have f0:=K.frozen 0;rw[Fk (by omega),if_pos (by omega)]at k0;obtain⟨W1,aA⟩:=H8 (wr.setCell ⟨w.heap.size,0,none⟩ (.int .u64 (J0 (Vf a b 0-72))));have K1:Bk W1 w.heap.size 138 (C9 (B5p a b)):=by have:=K.set_ 0 (.int .u64 (J0 (Vf a b 0-72)));rw[Am]at this;rw[aA];exact this
   have R1:Bk W1 (w.heap.size+2) 138 (C9 (I3 5)):=by rw[aA];exact R.far (by simp) _
   have B1:Below w.heap.size w W1:=by rw[aA];exact B.setCell (by simp) _
   have rk:=K1.row64 (n:=5) (by simp);rw[aA]at rk;clear K R L;go_wp2_with fail;rw[←aA];clear aA rk;refine (Hv (B5p a b) rfl W1).mono ?_;rintro e w2 ⟨rfl,b2⟩;have R2:=R1.bl b2;have B2:=J5 B1 b2;have aD:=Fu 5 R2 (by simp);go_wp2_with fail;refine bodyPost_ret (E5 rfl _ _ _ _ _ _ rfl (R2.puts (vs:=C9 (E3 a b)) (by simp)) P4 rfl (by simp[X8])) rfl ⟨rfl,C5 B2 (by show w.heap.size≤w.heap.size+2;omega) _⟩
theorem Iz (v:UInt64) (w:World):Calls Tryz.prog 124 #[.int .u64 (J0 v)] w fun e w'=>e=.returned (H7 (D9 v))∧Below w.heap.size w w':=by
 obtain⟨W0,aA⟩:=H8 (w.alloc (Obj.cells (C9 (I3 5)).toArray 138));have B0:=BA' aA;have R0:=KN' aA;have aB:=Fu 5 R0 (by simp);rw[aA]at aB;go_enter Tryz.func124,Tryz.ntmps124;go_wp2_with fail;rw[←aA];refine bodyPost_ret (E5 rfl _ _ _ _ _ _ rfl (R0.puts (vs:=C9 (D9 v)) (by simp)) P4 rfl (by simp[X8])) rfl ⟨rfl,C5 B0 (Nat.le_refl _) _⟩
theorem Bh (a:List UInt64) (ha:a.length=5) (n:Nat) (hn:n≤1000000) (w:World):Calls Tryz.prog 130 #[H7 a,.int .i64 (n:Int)] w fun e w'=>e=.returned (H7 (Z6 n a))∧Below w.heap.size w w':=by
 obtain⟨W0,aA⟩:=H8 ((w.alloc (Obj.cells (C9 a).toArray 138)).alloc (Obj.cells (C9 (I3 5)).toArray 138));have hL:W0=M2 w [(138,C9 a),(138,C9 (I3 5))]:=aA;have B0:=Jc hL;have A0:=Jy hL rfl;have R0:=Gs 1 hL rfl;clear hL;go_enter Tryz.func130,Tryz.ntmps130;go_wp2_with fail;rw[←aA];clear aA;go_loopw [6] (fun t wr=>∃i:Nat,i≤n∧t=.int .i64 (i:Int)∧Bk wr w.heap.size 138 (C9 (Z6 i a))∧Bk wr (w.heap.size+1) 138 (C9 (I3 5))∧Below w.heap.size w wr) (fun t _=>n-(intOf t).toNat)
 case atStart=>exact ⟨0,by omega,rfl,A0,R0,B0⟩
 case round=>
  clear A0 R0 B0;obtain⟨i,hi,rfl,K,R,B⟩:=hrel;have hl:=A4t ha i;have rk:=K.row64 hl;by_cases hlt:i<n
  ·go_wp2_with fail;refine (Pv (Z6 i a) hl wr).mono ?_;rintro e w1 ⟨rfl,b1⟩;have K1:=K.bl b1;have R1:=R.bl b1;have B1:=J5 B b1;have aB:P7 w1 ⟨w.heap.size,0,none⟩ 5=true:=K1.can (by simp[hl]);go_wp2_with fail;go_roundw;case rel=>exact ⟨i+1,by omega,by go_num,K1.puts (by simp[hl]),R1.putFar (by simp) _,C5 B1 (by simp) _⟩
   case measure=>simp[intOf];omega
  ·obtain rfl:i=n:=by omega
   have aB:=Fu 5 R (by simp);go_wp2_with fail;refine bodyPost_ret (E5 rfl _ _ _ _ _ _ rfl (R.puts (vs:=C9 (Z6 i a)) (by simp[hl])) P4 rfl (by simp[X8,hl])) rfl ⟨rfl,C5 B (by simp) _⟩
theorem Bk.row8 {w:World} {g:Nat} {t:TypeId} {l:List UInt8} {n:Nat} (h:Bk w g t (c8 l)) (hl:l.length=n):I6 w ⟨g,0,none⟩ n=some (c8 l):=by have:=h.rows;rwa [I7,hl]at this
def Fg (a:List UInt64):List UInt64:=C4 (Z6 2 (Mw a)) a
def Dv (a:List UInt64):List UInt64:=C4 (Fg a) (Mw a)
def f5 (a:List UInt64):List UInt64:=C4 (Mw (Dv a)) (Fg a)
def Ut (a:List UInt64):List UInt64:=C4 (Z6 5 (f5 a)) (f5 a)
def Mt (a:List UInt64):List UInt64:=C4 (Z6 10 (Ut a)) (Ut a)
def f50 (a:List UInt64):List UInt64:=C4 (Z6 10 (C4 (Z6 20 (Mt a)) (Mt a))) (Ut a)
def Hb (a:List UInt64):List UInt64:=C4 (Z6 50 (f50 a)) (f50 a)
def Cz (a:List UInt64):List UInt64:=C4 (Z6 50 (C4 (Z6 100 (Hb a)) (Hb a))) (f50 a)
def Z1 (a:List UInt64):List UInt64:=C4 (Z6 5 (Cz a)) (Dv a)
@[simp, go_sem] theorem C1n (a : List UInt64) : (Fg a).length = 5 := rfl
@[simp, go_sem] theorem B5a (a : List UInt64) : (Dv a).length = 5 := rfl
@[simp, go_sem] theorem C9y (a : List UInt64) : (f5 a).length = 5 := rfl
@[simp, go_sem] theorem C8a (a : List UInt64) : (Ut a).length = 5 := rfl
@[simp, go_sem] theorem C6f (a : List UInt64) : (Mt a).length = 5 := rfl
@[simp, go_sem] theorem C8c (a : List UInt64) : (f50 a).length = 5 := rfl
@[simp, go_sem] theorem C3v (a : List UInt64) : (Hb a).length = 5 := rfl
@[simp, go_sem] theorem B9x (a : List UInt64) : (Cz a).length = 5 := rfl
@[simp, go_sem] theorem C4q (a : List UInt64) : (Z1 a).length = 5 := rfl
def Ie (f:Nat→UInt8) (n i:Nat):List UInt8:=(List.range n).map fun j=>if j<i then f j else 0
@[simp, go_sem] theorem He (f : Nat → UInt8) (n i : Nat) : (Ie f n i).length = n := by simp [Ie]
theorem A1l {f:Nat→UInt8} {n i:Nat} (hi:i<n) {x:UInt8} (hx:x=f i):(Ie f n i).set i x=Ie f n (i+1):=by
 subst hx;apply List.ext_getElem?;intro j;unfold Ie;rw[List.getElem?_set];by_cases h:i=j
 ·subst h;rw[if_pos rfl,if_pos (by simpa using hi),List.getElem?_map,List.getElem?_range hi];simp
 ·rw[if_neg h,List.getElem?_map,List.getElem?_map];by_cases hj:j<n
  ·rw[List.getElem?_range hj];simp only[Option.map_some];have:(j<i+1)↔(j<i):=by omega
   simp[this]
  ·rw[List.getElem?_eq_none (by simpa using hj)];rfl
theorem Tf {f:Nat→UInt8} {n:Nat}:Ie f n 0=z8 n:=by
 apply List.ext_getElem?;intro j;unfold Ie z8;rw[List.getElem?_map,List.getElem?_replicate];by_cases hj:j<n
 ·rw[List.getElem?_range hj,if_pos hj];rfl
 ·rw[List.getElem?_eq_none (by simpa using hj),if_neg hj];rfl
def Xn (ws:List UInt64) (j:Nat):UInt8:=(E9 ws (j / 8) >>> UInt64.ofNat (8*(j % 8))).toUInt8
def Pp (ws:List UInt64) (n:Nat):List UInt8:=Ie (Xn ws) n n
@[simp, go_sem] theorem Oj (ws : List UInt64) (n : Nat) : (Pp ws n).length = n := He _ _ _
def hq (b:List UInt64):Nat→UInt64
 | 0=>(E9 b 0+19) >>> (51:UInt64)
 | i+1=>(E9 b (i+1)+hq b i) >>> (51:UInt64)
def hs (b:List UInt64):Nat→List UInt64
 | 0=>b.set 0 (E9 b 0+19*hq b 4)
 | i+1=>((hs b i).set (i+1) (E9 (hs b i) (i+1)+E9 (hs b i) i >>> (51:UInt64))).set i (E9 (hs b i) i &&& (2251799813685247:UInt64))
theorem Zl {b:List UInt64} (hb:b.length=5):∀i,(hs b i).length=5
 | 0=>by simp[hs,hb]
 | i+1=>by simp[hs,Zl hb i]
def B3p (b:List UInt64):List UInt64:=(hs b 4).set 4 (E9 (hs b 4) 4 &&& (2251799813685247:UInt64))
def Ed (c:List UInt64):List UInt64:=[E9 c 0 ||| E9 c 1 <<< (51:UInt64),E9 c 1 >>> (13:UInt64) ||| E9 c 2 <<< (38:UInt64),E9 c 2 >>> (26:UInt64) ||| E9 c 3 <<< (25:UInt64),E9 c 3 >>> (39:UInt64) ||| E9 c 4 <<< (12:UInt64)]
@[simp, go_sem] theorem B9o (c : List UInt64) : (Ed c).length = 4 := rfl
def N9 (a:List UInt64):List UInt8:=Pp (Ed (B3p (Ek (Ek a)))) 32
@[simp, go_sem] theorem Z0 (a : List UInt64) : (N9 a).length = 32 := Oj _ _
theorem Dj (a:List UInt64) (ha:a.length=5) (w:World):Calls Tryz.prog 103 #[H7 a] w fun e w'=>e=.returned (A8 (N9 a))∧Below w.heap.size w w':=by
 obtain⟨W0,aH⟩:=H8 ((w.alloc (Obj.cells (C9 a).toArray 138)).alloc (Obj.cells (c8 (z8 32)).toArray 23));have hL:W0=M2 w [(138,C9 a),(23,c8 (z8 32))]:=aH;have B0:=Jc hL;have A0:=Jy hL rfl;have R0:=Gs 1 hL rfl;have z0:=Vp 2 hL rfl;clear hL;have ra:=A0.row64 ha;rw[aH]at ra;go_enter Tryz.func103,Tryz.ntmps103;go_wp2_with fail;rw[←aH];clear aH ra;refine (Hv a ha W0).mono ?_;rintro e w1 ⟨rfl,b1⟩;go_wp2_with fail;refine (Hv (Ek a) rfl w1).mono ?_;rintro e w2 ⟨rfl,b2⟩;have aF:=J5 b1 b2;have A2:=A0.bl aF;have R2:=R0.bl aF;have B2:=J5 B0 aF;have z2:=Nat.le_trans z0 aF.size;obtain⟨b,hb⟩:=H8 (Ek (Ek a));have aK:b.length=5:=by rw[hb];rfl
 have HB:Hid (N9 a=Pp (Ed (B3p b)) 32):=Lib.hid (by rw[hb];rfl);rw[←hb];clear hb A0 R0 B0 b1 b2 aF z0;have aG:P7 w2 ⟨w.heap.size,0,none⟩ 5=true:=A2.can (by simp[ha]);obtain⟨W3,aC⟩:=H8 (E0 w2 ⟨w.heap.size,0,none⟩ (C9 b));have A3:Bk W3 w.heap.size 138 (C9 b):=by rw[aC];exact A2.puts (by simp[ha,aK])
 have R3:Bk W3 (w.heap.size+1) 23 (c8 (z8 32)):=by rw[aC];exact R2.putFar (by simp) _
 have B3:Below w.heap.size w W3:=by rw[aC];exact C5 B2 (Nat.le_refl _) _
 have z3:w.heap.size+2≤W3.heap.size:=by rw[aC];have:=(C5 (Below.refl w.heap.size w2) (a:=⟨w.heap.size,0,none⟩) (Nat.le_refl _) (C9 b)).size;omega
 have k0:=A3.at_ (J1 (l:=b) (i:=0) (by omega));rw[aC]at k0;clear A2 R2 B2 z2;go_wp2_with fail;rw[←aC];clear aC k0 aG;go_loop [4,3] (fun t q=>∃i:Nat,i<5∧t=.int .i64 ((i:Int)+1)∧q=.int .u64 (J0 (hq b i))) (fun t _=>5-(intOf t).toNat)
 case atStart=>exact ⟨0,by omega,rfl,rfl⟩
 case round=>
  obtain⟨i,hi,rfl,rfl⟩:=hrel;by_cases hlt:i+1<5
  ·have k0:=A3.at_ (J1 (l:=b) (i:=i+1) (by omega));have e1:(i:Int)+1<5:=by omega
   go_wp2_with fail;go_round;case rel=>exact ⟨i+1,hlt,by go_num,rfl⟩
   case measure=>simp[intOf];omega
  ·obtain rfl:i=4:=by omega
   have k0:=A3.at_ (J1 (l:=b) (i:=0) (by omega));have f0:=A3.frozen 0;obtain⟨W4,aD⟩:=H8 (W3.setCell ⟨w.heap.size,0,none⟩ (.int .u64 (J0 (E9 b 0+19*hq b 4))));have A4:Bk W4 w.heap.size 138 (C9 (hs b 0)):=by have:=A3.set_ 0 (.int .u64 (J0 (E9 b 0+19*hq b 4)));rw[Am]at this;rw[aD];exact this
   have R4:Bk W4 (w.heap.size+1) 23 (c8 (z8 32)):=by rw[aD];exact R3.far (by simp) _
   have B4:Below w.heap.size w W4:=by rw[aD];exact B3.setCell (by simp) _
   have z4:w.heap.size+2≤W4.heap.size:=by rw[aD];simpa [World.setCell] using z3
   have e5:(((4:Nat):Int)+1)=5:=rfl;rw[e5];clear A3 R3 B3 z3 e5;go_wp2_with fail;rw[←aD];clear aD k0 f0;go_loopw [36] (fun t wr=>∃i:Nat,i≤4∧t=.int .i64 (i:Int)∧Bk wr w.heap.size 138 (C9 (hs b i))∧Bk wr (w.heap.size+1) 23 (c8 (z8 32))∧Below w.heap.size w wr∧w.heap.size+2≤wr.heap.size) (fun t _=>4-(intOf t).toNat)
   case atStart=>exact ⟨0,by omega,rfl,A4,R4,B4,z4⟩
   case round=>
    clear A4 R4 B4 z4;obtain⟨i,hi,rfl,A,R,B,z⟩:=hrel;have hl:=Zl aK i;by_cases hlt:i<4
    ·have k0:=A.at_ (J1 (l:=hs b i) (i:=i+1) (by omega));have k1:=A.at_ (J1 (l:=hs b i) (i:=i) (by omega));have f0:=A.frozen (i+1);have A5:=A.set_ (i+1) (.int .u64 (J0 (E9 (hs b i) (i+1)+E9 (hs b i) i >>> (51:UInt64))));have R5:=R.far (p:=⟨w.heap.size,i+1,none⟩) (by simp) (.int .u64 (J0 (E9 (hs b i) (i+1)+E9 (hs b i) i >>> (51:UInt64))));have k5:=A5.at_ (i:=i) (u:=.int .u64 (J0 (E9 (hs b i) i))) (by rw[List.getElem?_set_ne (by omega)];exact J1 (by omega));have f5:=A5.frozen i;have A6:=A5.set_ i (.int .u64 (J0 (E9 (hs b i) i &&& (2251799813685247:UInt64))));rw[Am,Am]at A6;have R6:=R5.far (p:=⟨w.heap.size,i,none⟩) (by simp) (.int .u64 (J0 (E9 (hs b i) i &&& (2251799813685247:UInt64))));have e1:(i:Int)+1<5:=by omega
     clear A R A5 R5;go_wp2_with fail;refine Ay 13 (by kernel_rfl) (by kernel_rfl) ?_;simp only[List.take_succ_cons,List.take_zero,List.drop_succ_cons,List.drop_zero];repeat (go_big_quiet_step (fail))
     refine wpQuiet_nil ?_;rintro w6 ⟨aI,rfl⟩;have k6:((wr.drewN aI).setCell ⟨w.heap.size,i+1,none⟩ (.int .u64 (J0 (E9 (hs b i) (i+1)+E9 (hs b i) i >>> (51:UInt64))))).cell? ⟨w.heap.size,i,none⟩=some (.int .u64 (J0 (E9 (hs b i) i))):=k5;have f6:((wr.drewN aI).setCell ⟨w.heap.size,i+1,none⟩ (.int .u64 (J0 (E9 (hs b i) (i+1)+E9 (hs b i) i >>> (51:UInt64))))).frozen? ⟨w.heap.size,i,none⟩=false:=f5;clear k5 f5;go_wp2_with fail;go_roundw;case rel=>exact ⟨i+1,by omega,by go_num,A6,R6,((Q2 B aI).setCell (by simp) _).setCell (by simp) _,by simpa [World.setCell] using z⟩
     case measure=>simp[intOf];omega
    ·obtain rfl:i=4:=by omega
     have k0:=A.at_ (J1 (l:=hs b 4) (i:=4) (by omega));have f0:=A.frozen 4;have e5:((4:Nat):Int)=4:=rfl;rw[e5];obtain⟨W5,aB⟩:=H8 (wr.setCell ⟨w.heap.size,4,none⟩ (.int .u64 (J0 (E9 (hs b 4) 4 &&& (2251799813685247:UInt64)))));have A5:Bk W5 w.heap.size 138 (C9 (B3p b)):=by have:=A.set_ 4 (.int .u64 (J0 (E9 (hs b 4) 4 &&& (2251799813685247:UInt64))));rw[Am]at this;rw[aB];exact this
     have R5:Bk W5 (w.heap.size+1) 23 (c8 (z8 32)):=by rw[aB];exact R.far (by simp) _
     have B5:Below w.heap.size w W5:=by rw[aB];exact B.setCell (by simp) _
     have z5:w.heap.size+2≤W5.heap.size:=by rw[aB];simpa [World.setCell] using z
     have aN:(B3p b).length=5:=by simp[B3p,hl]
     obtain⟨cc,aJ⟩:=H8 (B3p b);rw[←aJ]at A5 aN;have HC:Hid (N9 a=Pp (Ed cc) 32):=Lib.hid (by rw[HB.out,aJ]);have c0:=A5.at_ (J1 (l:=cc) (i:=0) (by omega));have c1:=A5.at_ (J1 (l:=cc) (i:=1) (by omega));have c2:=A5.at_ (J1 (l:=cc) (i:=2) (by omega));have c3:=A5.at_ (J1 (l:=cc) (i:=3) (by omega));have c4:=A5.at_ (J1 (l:=cc) (i:=4) (by omega));obtain⟨W6,aE⟩:=H8 ((E0 (W5.alloc (Obj.cells (C9 (I3 4)).toArray 182)) ⟨W5.heap.size,0,none⟩ (C9 (Ed cc))).alloc (Obj.cells (c8 (z8 32)).toArray 23));have D6:Bk W6 W5.heap.size 182 (C9 (Ed cc)):=by rw[aE];exact (Bk.fresh64 W5 _ (by simp)).alloc _
     have b6:Below W5.heap.size W5 W6:=by rw[aE];exact (C5 (Bi _ _) (Nat.le_refl _) _).alloc (by simp) _
     have O6:Bk W6 (W5.heap.size+1) 23 (c8 (z8 32)):=by rw[aE];simpa using Bk.new (E0 (W5.alloc (Obj.cells (C9 (I3 4)).toArray 182)) ⟨W5.heap.size,0,none⟩ (C9 (Ed cc))) 23 (c8 (z8 32))
     have aA:=Ai W5 182 (I3 4) 4 _ (by simp) rfl;have R6:=R5.bl b6;have B6:=J5 B5 b6;have aL:W5.heap.size=wr.heap.size:=by rw[aB];simp[World.setCell]
     rw[aL]at D6 O6 aA aE;obtain⟨p,hp⟩:=H8 (wr.heap.size);have zp:w.heap.size+2≤p:=by rw[hp];exact z
     rw[aB]at c0 c1 c2 c3 c4 aA;clear A R B z A5 R5 B5 z5 b6 aJ aL;go_wp2_with fail;rw[show [E9 cc 0 ||| E9 cc 1 <<< (51:UInt64),E9 cc 1 >>> (13:UInt64) ||| E9 cc 2 <<< (38:UInt64),E9 cc 2 >>> (26:UInt64) ||| E9 cc 3 <<< (25:UInt64),E9 cc 3 >>> (39:UInt64) ||| E9 cc 4 <<< (12:UInt64)]=Ed cc from rfl];rw[←aB,←aE];rw[←hp]at D6 O6 ⊢;clear aB aE hp c0 c1 c2 c3 c4 aA k0 f0 e5;rw[←Tf (f:=Xn (Ed cc))]at O6;go_loopw [102] (fun t wr=>∃i:Nat,i≤32∧t=.int .i64 (i:Int)∧Bk wr p 182 (C9 (Ed cc))∧Bk wr (p+1) 23 (c8 (Ie (Xn (Ed cc)) 32 i))∧Bk wr (w.heap.size+1) 23 (c8 (z8 32))∧Below w.heap.size w wr) (fun t _=>32-(intOf t).toNat)
     case atStart=>exact ⟨0,by omega,rfl,D6,O6,R6,B6⟩
     case round=>
      clear D6 O6 R6 B6;obtain⟨i,hi,rfl,D,O,R,B⟩:=hrel;by_cases hlt:i<32
      ·have aP:(i:Int) / 8=((i / 8:Nat):Int):=by omega
       have aQ:(i:Int) % 8=((i % 8:Nat):Int):=by omega
       have hx:Xn (Ed cc) i=(E9 (Ed cc) (i / 8) >>> UInt64.ofNat (8*(i % 8))).toUInt8:=rfl;have d0:=D.at_ (J1 (l:=Ed cc) (i:=i / 8) (by simp;omega));have o0:=O.at_ (Ej (l:=Ie (Xn (Ed cc)) 32 i) (i:=i) (by simpa using hlt));have f0:=O.frozen i;have aR:i / 8<4:=by omega
       have aS:i % 8<8:=by omega
       have HX:=Lib.hid hx;have O3:=O.set_ i (.int .u8 (n8 (E9 (Ed cc) (i / 8) >>> UInt64.ofNat (8*(i % 8))).toUInt8));rw[Ft,A1l (f:=Xn (Ed cc)) hlt HX.out.symm]at O3;clear hx;generalize i / 8=qq at *;generalize i % 8=rr at *;obtain⟨ss,aM⟩:=H8 (8*rr);have h8:8*(rr:Int)=(ss:Int):=by omega
       have aO:ss<64:=by omega
       rw[←aM]at O3;clear HX aM;go_wp2_with fail;go_roundw;case rel=>exact ⟨i+1,by omega,by go_num,D.far (by simp) _,O3,R.far (by simp;omega) _,B.setCell (by simp;omega) _⟩
       case measure=>simp[intOf];omega
      ·obtain rfl:i=32:=by omega
       have hO:Bk wr (p+1) 23 (c8 (Pp (Ed cc) 32)):=O;rw[←HC.out]at hO;have ro:=hO.row8 (n:=32) (by simp);have aG:=Fu 32 R (by simp);have e5:((32:Nat):Int)=32:=rfl;rw[e5];clear e5 O hO D;go_wp2_with fail;refine bodyPost_ret (E5 rfl _ _ _ _ _ _ rfl (R.puts (vs:=c8 (N9 a)) (by simp)) Tryz.underlying23 rfl (by simp[O7])) rfl ⟨rfl,C5 B (by simp) _⟩
def Wx (a:List UInt64):Bool:=g8 (N9 a) 0 &&& 1==1
theorem Wh (a:List UInt64) (ha:a.length=5) (w:World):Calls Tryz.prog 104 #[H7 a] w fun e w'=>e=.returned (.bool (Wx a))∧Below w.heap.size w w':=by
 obtain⟨W0,aA⟩:=H8 (w.alloc (Obj.cells (C9 a).toArray 138));have B0:=BA' aA;have A0:=KN' aA;have ra:=A0.row64 ha;rw[aA]at ra;have hl:(N9 a).length=32:=by simp
 have hb:(n8 (g8 (N9 a) 0 &&& 1)==1)=Wx a:=Nn (x:=g8 (N9 a) 0 &&& 1) (y:=1);go_enter Tryz.func104,Tryz.ntmps104;go_wp2_with fail;rw[←aA];clear aA ra;refine (Dj a ha W0).mono ?_;rintro e w1 ⟨rfl,b1⟩;go_wp2_with fail;go_ret;exact ⟨rfl,E8 B0 b1 B0.size⟩
end Go.Proofs.YtlegpkdighoflaaGreat
