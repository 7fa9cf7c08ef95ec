/- A part of the proof of DirAnswers. -/
import Derived.Test.YtlegpkdighoflaaGreatPaf
import Derived.Test.YtlegpkdighoflaaGreatPah
set_option linter.unusedVariables false
set_option linter.unusedSimpArgs false
set_option maxRecDepth 100000
set_option maxHeartbeats 40000000
namespace Go.Proofs.YtlegpkdighoflaaGreat
open Go Go.RowKit Sh
theorem Yt {P:Program} {md:Region.Mode} {ops:Array Oper} {Q:Exit→Act→World→Prop} {S S':World→Prop} (h:∀W,S' W→S W):∀(fuel:Nat) (listed:Array Bool) (a:Act) (w:World),wpAnyH P md ops Q S' fuel listed a w→wpAnyH P md ops Q S fuel listed a w
 | 0,_,_,_,H=>H
 | fuel+1,_,_,_,H=>⟨H.1,fun i hi=>wpOp_mono (fun a' w' h'=>⟨h _ h'.1,Yt h fuel _ a' w' h'.2⟩) (H.2 i hi)⟩
theorem B7c {P:Program} {l:List Oper} {Q:Exit→Act→World→Prop} {S:World→Prop} (S':World→Prop) {done:List Nat} {a:Act} {w:World} (h:∀W,S' W→S W) (H:Y5 P l Q S' done a w):Y5 P l Q S done a w:=Yt h _ _ a w H
def M9:World→List (TypeId×List Value)→World
 | w,[]=>w
 | w,x::l=>M9 (w.alloc (.cells x.2.toArray x.1)) l
theorem Fk:∀(l:List (TypeId×List Value)) (w:World),Below w.heap.size w (M9 w l)
 | [],w=>Below.refl _ _
 | x::l,w=>(Aw _ _).trans ((Fk l _).mono (by simp))
theorem Mv:∀(l:List (TypeId×List Value)) (w:World),(M9 w l).heap.size=w.heap.size+l.length
 | [],w=>rfl
 | x::l,w=>by rw[M9,Mv l];simp;omega
theorem Z7:∀(l:List (TypeId×List Value)) (w:World) (i:Nat) (t:TypeId) (cs:List Value),l[i]?=some (t,cs)→Bk (M9 w l) (w.heap.size+i) t cs
 | [],_,_,_,_,h=>by simp at h
 | x::l,w,0,t,cs,h=>by
  simp only[List.getElem?_cons_zero,Option.some.injEq]at h;subst h;exact (Bk.new w t cs).below (Fk l _) (by simp)
 | x::l,w,i+1,t,cs,h=>by
  have:=Z7 l (w.alloc (.cells x.2.toArray x.1)) i t cs (by simpa using h);rw[M9];have e:(w.alloc (.cells x.2.toArray x.1)).heap.size+i=w.heap.size+(i+1):=by simp;omega
  rwa [e]at this
theorem Vh (t0 t1 t2 t3 t4:List UInt64) (h0:t0.length=2) (h1:t1.length=2) (h2:t2.length=2) (h3:t3.length=2) (h4:t4.length=2) (w:World):Calls Tryz.prog 133 #[H9 t0,H9 t1,H9 t2,H9 t3,H9 t4] w fun e w'=>e=.returned (H9 (Oc t0 t1 t2 t3 t4))∧Below w.heap.size w w':=by
 obtain⟨W0,aA⟩:=F9 (((((((w.alloc (Obj.cells (C9 t0).toArray 211)).alloc (Obj.cells (C9 t1).toArray 211)).alloc (Obj.cells (C9 t2).toArray 211)).alloc (Obj.cells (C9 t3).toArray 211)).alloc (Obj.cells (C9 t4).toArray 211)).alloc (Obj.cells (C9 (J2 5)).toArray 138)));have hL:W0=M9 w [(211,C9 t0),(211,C9 t1),(211,C9 t2),(211,C9 t3),(211,C9 t4),(138,C9 (J2 5))]:=aA;have B0:Below w.heap.size w W0:=by rw[hL];exact Fk _ _
 have K0:Bk W0 (w.heap.size+0) 211 (C9 t0):=by rw[hL];exact Z7 _ w 0 _ _ rfl
 have K1:Bk W0 (w.heap.size+1) 211 (C9 t1):=by rw[hL];exact Z7 _ w 1 _ _ rfl
 have K2:Bk W0 (w.heap.size+2) 211 (C9 t2):=by rw[hL];exact Z7 _ w 2 _ _ rfl
 have K3:Bk W0 (w.heap.size+3) 211 (C9 t3):=by rw[hL];exact Z7 _ w 3 _ _ rfl
 have K4:Bk W0 (w.heap.size+4) 211 (C9 t4):=by rw[hL];exact Z7 _ w 4 _ _ rfl
 have R0:Bk W0 (w.heap.size+5) 138 (C9 (J2 5)):=by rw[hL];exact Z7 _ w 5 _ _ rfl
 clear hL;rw[Nat.add_zero]at K0;go_enter Tryz.func133,Tryz.ntmps133;go_wp2_with fail;rw[←aA];clear aA;have S0:=Fx W0;refine Fa (fun W=>Below W0.heap.size W0 W) ?_;refine Df (A:=?aE) [0,2,4,6,8] S0 (fun W hW=>?aB) ?aF;case aB=>
  have r0:=(K0.bl hW).row64 h0;have r1:=(K1.bl hW).row64 h1;have r2:=(K2.bl hW).row64 h2;have r3:=(K3.bl hW).row64 h3;have r4:=(K4.bl hW).row64 h4;exact Ei
 refine U7 1 fun Q' hQ'=>?_;dsimp only[F0];go_wp2_with fail;refine (Qu t0 h0 W0.drew).mono ?_;rintro e w1 ⟨rfl,b1⟩;have S1:=S0.trans b1;go_wp2_with fail;refine hQ' _ _ S1 ?_;clear hQ';refine U7 3 fun Q' hQ'=>?_;dsimp only[F0];go_wp2_with fail;refine (Qu t1 h1 w1).mono ?_;rintro e w2 ⟨rfl,b2⟩;have S2:=K9 S1 b2;go_wp2_with fail;refine hQ' _ _ S2 ?_;clear hQ';refine U7 5 fun Q' hQ'=>?_;dsimp only[F0];go_wp2_with fail;refine (Qu t2 h2 w2).mono ?_;rintro e w3 ⟨rfl,b3⟩;have S3:=K9 S2 b3;go_wp2_with fail;refine hQ' _ _ S3 ?_;clear hQ';refine U7 7 fun Q' hQ'=>?_;dsimp only[F0];go_wp2_with fail;refine (Qu t3 h3 w3).mono ?_;rintro e w4 ⟨rfl,b4⟩;have S4:=K9 S3 b4;go_wp2_with fail;refine hQ' _ _ S4 ?_;clear hQ';refine U7 9 fun Q' hQ'=>?_;dsimp only[F0];go_wp2_with fail;refine (Qu t4 h4 w4).mono ?_;rintro e w5 ⟨rfl,b5⟩;have S5:=K9 S4 b5;go_wp2_with fail;refine hQ' _ _ S5 ?_;clear hQ';refine Df (A:=?aG) [10,11,12,13,14] S5 (fun W hW=>?aC) ?aH;case aC=>
  simp only[List.append_eq,AC',Dh,Ul];repeat (go_big_quiet_step (fail))
  refine wpQuiet_nil ?_;rfl
 refine Ef ?_;have KS:∀ {g:Nat} {t:TypeId} {cs:List Value},Bk W0 g t cs→Bk w5 g t cs:=fun h=>h.bl S5;have k0:=(KS K0).at_ (J6 (l:=t0) (i:=1) (by omega));have k1:=(KS K1).at_ (J6 (l:=t1) (i:=1) (by omega));have k2:=(KS K2).at_ (J6 (l:=t2) (i:=1) (by omega));have k3:=(KS K3).at_ (J6 (l:=t3) (i:=1) (by omega));have k4:=(KS K4).at_ (J6 (l:=t4) (i:=1) (by omega));go_wp2_with fail;refine (Jv (C3s t0 t1 t2 t3 t4) (by simp) w5).mono ?_;rintro e w6 ⟨rfl,b6⟩;have R6:=(KS R0).below b6 (KS R0).lt;have B6:=K9 (E3 B0 S5 B0.size) b6;have aD:=Gy 5 R6 (by simp);clear KS;go_wp2_with fail;refine bodyPost_ret (E5 rfl _ _ _ _ _ _ rfl (R6.puts (vs:=C9 (Gh (C3s t0 t1 t2 t3 t4))) (by simp)) Q9 rfl (by simp[Z6])) rfl ⟨rfl,C5 B6 (by show w.heap.size≤w.heap.size+5;omega) _⟩
def Uh (a b:List UInt64):List UInt64:=M2 (M2 (M2 (M2 (Bc (E9 a 0) (E9 b 0)) (19*E9 a 1) (E9 b 4)) (19*E9 a 2) (E9 b 3)) (19*E9 a 3) (E9 b 2)) (19*E9 a 4) (E9 b 1)
@[simp, go_sem] theorem C6u (a b : List UInt64) : (Uh a b).length = 2 := rfl
def Ui (a b:List UInt64):List UInt64:=M2 (M2 (M2 (M2 (Bc (E9 a 0) (E9 b 1)) (E9 a 1) (E9 b 0)) (19*E9 a 2) (E9 b 4)) (19*E9 a 3) (E9 b 3)) (19*E9 a 4) (E9 b 2)
@[simp, go_sem] theorem C6q (a b : List UInt64) : (Ui a b).length = 2 := rfl
def Te (a b:List UInt64):List UInt64:=M2 (M2 (M2 (M2 (Bc (E9 a 0) (E9 b 2)) (E9 a 1) (E9 b 1)) (E9 a 2) (E9 b 0)) (19*E9 a 3) (E9 b 4)) (19*E9 a 4) (E9 b 3)
@[simp, go_sem] theorem C6r (a b : List UInt64) : (Te a b).length = 2 := rfl
def Tp (a b:List UInt64):List UInt64:=M2 (M2 (M2 (M2 (Bc (E9 a 0) (E9 b 3)) (E9 a 1) (E9 b 2)) (E9 a 2) (E9 b 1)) (E9 a 3) (E9 b 0)) (19*E9 a 4) (E9 b 4)
@[simp, go_sem] theorem C6k (a b : List UInt64) : (Tp a b).length = 2 := rfl
def Ub (a b:List UInt64):List UInt64:=M2 (M2 (M2 (M2 (Bc (E9 a 0) (E9 b 4)) (E9 a 1) (E9 b 3)) (E9 a 2) (E9 b 2)) (E9 a 3) (E9 b 1)) (E9 a 4) (E9 b 0)
@[simp, go_sem] theorem C6p (a b : List UInt64) : (Ub a b).length = 2 := rfl
def C4 (a b:List UInt64):List UInt64:=Oc (Uh a b) (Ui a b) (Te a b) (Tp a b) (Ub a b)
@[simp, go_sem] theorem D1d (a b : List UInt64) : (C4 a b).length = 5 := rfl
theorem M8 (a b:List UInt64) (ha:a.length=5) (hb:b.length=5) (w:World):Calls Tryz.prog 102 #[H9 a,H9 b] w fun e w'=>e=.returned (H9 (C4 a b))∧Below w.heap.size w w':=by
 obtain⟨W0,eK⟩:=F9 ((((w.alloc (Obj.cells (C9 a).toArray 138)).alloc (Obj.cells (C9 b).toArray 138)).alloc (Obj.cells (C9 (J2 5)).toArray 138)));have hL:W0=M9 w [(138,C9 a),(138,C9 b),(138,C9 (J2 5))]:=eK;have B0:Below w.heap.size w W0:=by rw[hL];exact Fk _ _
 have K0:Bk W0 w.heap.size 138 (C9 a):=by rw[hL];exact Z7 _ w 0 _ _ rfl
 have L0:Bk W0 (w.heap.size+1) 138 (C9 b):=by rw[hL];exact Z7 _ w 1 _ _ rfl
 have R0:Bk W0 (w.heap.size+2) 138 (C9 (J2 5)):=by rw[hL];exact Z7 _ w 2 _ _ rfl
 clear hL;have gU:=K0.at_ (J6 (l:=a) (i:=0) (by omega));have gV:=K0.at_ (J6 (l:=a) (i:=1) (by omega));have gW:=K0.at_ (J6 (l:=a) (i:=2) (by omega));have gY:=K0.at_ (J6 (l:=a) (i:=3) (by omega));have gZ:=K0.at_ (J6 (l:=a) (i:=4) (by omega));have eL:=L0.at_ (J6 (l:=b) (i:=0) (by omega));have eM:=L0.at_ (J6 (l:=b) (i:=1) (by omega));have eN:=L0.at_ (J6 (l:=b) (i:=2) (by omega));have eO:=L0.at_ (J6 (l:=b) (i:=3) (by omega));have eP:=L0.at_ (J6 (l:=b) (i:=4) (by omega));go_enter Tryz.func102,Tryz.ntmps102;go_wp2_with fail;rw[←eK];clear eK;go_quiet (fail);obtain⟨W1,aD⟩:=F9 (W0.drewN nq);rw[←aD];have B1:Below w.heap.size w W1:=by rw[aD];exact N7 B0 _
 have R1:Bk W1 (w.heap.size+2) 138 (C9 (J2 5)):=by rw[aD];exact R0
 have hF:W1.cell? ⟨w.heap.size+1,0,none⟩=some (.int .u64 (J4 (E9 b 0))):=by rw[aD];exact eL
 have hJ:W1.cell? ⟨w.heap.size+1,1,none⟩=some (.int .u64 (J4 (E9 b 1))):=by rw[aD];exact eM
 have hY:W1.cell? ⟨w.heap.size+1,2,none⟩=some (.int .u64 (J4 (E9 b 2))):=by rw[aD];exact eN
 have iA:W1.cell? ⟨w.heap.size+1,3,none⟩=some (.int .u64 (J4 (E9 b 3))):=by rw[aD];exact eO
 have iB:W1.cell? ⟨w.heap.size+1,4,none⟩=some (.int .u64 (J4 (E9 b 4))):=by rw[aD];exact eP
 clear aD gU gV gW gY gZ eL eM eN eO eP K0 L0 R0 B0;go_wp2_with fail;go_quiet (fail);obtain⟨W2,eD⟩:=F9 (W1.drewN nq);rw[←eD];have B2:Below w.heap.size w W2:=by rw[eD];exact N7 B1 _
 have R2:Bk W2 (w.heap.size+2) 138 (C9 (J2 5)):=by rw[eD];exact R1
 clear eD hF hJ hY iA iB R1 B1;go_wp2_with fail;refine (U9 (E9 a 0) (E9 b 0) W2).mono ?_;rintro e w3 ⟨rfl,b3⟩;have B3:=K9 B2 b3;have R3:=R2.bl b3;clear b3 R2 B2;go_wp2_with fail;refine (T7 (Bc (E9 a 0) (E9 b 0)) rfl (19*E9 a 1) (E9 b 4) w3).mono ?_;rintro e w4 ⟨rfl,b4⟩;have B4:=K9 B3 b4;have R4:=R3.bl b4;clear b4 R3 B3;go_wp2_with fail;refine (T7 (M2 (Bc (E9 a 0) (E9 b 0)) (19*E9 a 1) (E9 b 4)) rfl (19*E9 a 2) (E9 b 3) w4).mono ?_;rintro e w5 ⟨rfl,b5⟩;have B5:=K9 B4 b5;have R5:=R4.bl b5;clear b5 R4 B4;go_wp2_with fail;refine (T7 (M2 (M2 (Bc (E9 a 0) (E9 b 0)) (19*E9 a 1) (E9 b 4)) (19*E9 a 2) (E9 b 3)) rfl (19*E9 a 3) (E9 b 2) w5).mono ?_;rintro e w6 ⟨rfl,b6⟩;have B6:=K9 B5 b6;have R6:=R5.bl b6;clear b6 R5 B5;go_wp2_with fail;refine (T7 (M2 (M2 (M2 (Bc (E9 a 0) (E9 b 0)) (19*E9 a 1) (E9 b 4)) (19*E9 a 2) (E9 b 3)) (19*E9 a 3) (E9 b 2)) rfl (19*E9 a 4) (E9 b 1) w6).mono ?_;rintro e w7 ⟨rfl,b7⟩;have B7:=K9 B6 b7;have R7:=R6.bl b7;clear b7 R6 B6;rw[show M2 (M2 (M2 (M2 (Bc (E9 a 0) (E9 b 0)) (19*E9 a 1) (E9 b 4)) (19*E9 a 2) (E9 b 3)) (19*E9 a 3) (E9 b 2)) (19*E9 a 4) (E9 b 1)=Uh a b from rfl];obtain⟨W8,eE⟩:=F9 (D8 (w7.alloc (Obj.cells (C9 (J2 2)).toArray 211)) ⟨w7.heap.size,0,none⟩ (C9 (Uh a b)));have cQ:Bk W8 w7.heap.size 211 (C9 (Uh a b)):=by rw[eE];exact Bk.fresh64 w7 _ (by simp)
 have b8:Below w7.heap.size w7 W8:=by rw[eE];exact C5 (Aw _ _) (Nat.le_refl _) _
 have B8:=K9 B7 b8;have R8:=R7.bl b8;have dJ:=Bu w7 211 (J2 2) 2 _ (by simp) rfl;obtain⟨p0,eQ⟩:=F9 (w7.heap.size);have cR:∀x y,(Calls Tryz.prog 131 #[.int .u64 (J4 x),.int .u64 (J4 y)] W8 fun e w'=>e=.returned (H9 (Bc x y))∧Below W8.heap.size W8 w'):=fun x y=>U9 x y W8;clear cR;clear b8 R7 B7;have eS:=Lib.hid eE;clear eE;go_wp2_with fail;rw[←eS.out];rw[←eQ]at cQ ⊢;clear eQ dJ eS;refine (U9 (E9 a 0) (E9 b 1) W8).mono ?_;rintro e w9 ⟨rfl,b9⟩;have B9:=K9 B8 b9;have R9:=R8.bl b9;have dK:=cQ.bl b9;clear b9 R8 B8 cQ;go_wp2_with fail;refine (T7 (Bc (E9 a 0) (E9 b 1)) rfl (E9 a 1) (E9 b 0) w9).mono ?_;rintro e iC ⟨rfl,eF⟩;have eT:=K9 B9 eF;have eU:=R9.bl eF;have aI:=dK.bl eF;clear eF R9 B9 dK;go_wp2_with fail;refine (T7 (M2 (Bc (E9 a 0) (E9 b 1)) (E9 a 1) (E9 b 0)) rfl (19*E9 a 2) (E9 b 4) iC).mono ?_;rintro e iD ⟨rfl,eG⟩;have eV:=K9 eT eG;have eX:=eU.bl eG;have aJ:=aI.bl eG;clear eG eU eT aI;go_wp2_with fail;refine (T7 (M2 (M2 (Bc (E9 a 0) (E9 b 1)) (E9 a 1) (E9 b 0)) (19*E9 a 2) (E9 b 4)) rfl (19*E9 a 3) (E9 b 3) iD).mono ?_;rintro e iE ⟨rfl,eH⟩;have eY:=K9 eV eH;have eZ:=eX.bl eH;have aK:=aJ.bl eH;clear eH eX eV aJ;go_wp2_with fail;refine (T7 (M2 (M2 (M2 (Bc (E9 a 0) (E9 b 1)) (E9 a 1) (E9 b 0)) (19*E9 a 2) (E9 b 4)) (19*E9 a 3) (E9 b 3)) rfl (19*E9 a 4) (E9 b 2) iE).mono ?_
 rintro e aL ⟨rfl,eI⟩;have fC:=K9 eY eI;have fD:=eZ.bl eI;have aM:=aK.bl eI;clear eI eZ eY aK;rw[show M2 (M2 (M2 (M2 (Bc (E9 a 0) (E9 b 1)) (E9 a 1) (E9 b 0)) (19*E9 a 2) (E9 b 4)) (19*E9 a 3) (E9 b 3)) (19*E9 a 4) (E9 b 2)=Ui a b from rfl];obtain⟨cS,aE⟩:=F9 (D8 (aL.alloc (Obj.cells (C9 (J2 2)).toArray 211)) ⟨aL.heap.size,0,none⟩ (C9 (Ui a b)));have aA:Bk cS aL.heap.size 211 (C9 (Ui a b)):=by rw[aE];exact Bk.fresh64 aL _ (by simp)
 have eJ:Below aL.heap.size aL cS:=by rw[aE];exact C5 (Aw _ _) (Nat.le_refl _) _
 have fE:=K9 fC eJ;have fF:=fD.bl eJ;have aN:=aM.bl eJ;have dL:=Bu aL 211 (J2 2) 2 _ (by simp) rfl;obtain⟨p1,fG⟩:=F9 (aL.heap.size);have cR:∀x y,(Calls Tryz.prog 131 #[.int .u64 (J4 x),.int .u64 (J4 y)] cS fun e w'=>e=.returned (H9 (Bc x y))∧Below cS.heap.size cS w'):=fun x y=>U9 x y cS;clear cR;clear eJ fD fC aM;have dM:=Lib.hid aE;clear aE;go_wp2_with fail;rw[←dM.out];rw[←fG]at aA ⊢;clear fG dL dM;refine (U9 (E9 a 0) (E9 b 2) cS).mono ?_;rintro e iF ⟨rfl,dN⟩;have fH:=K9 fE dN;have fI:=fF.bl dN;have aO:=aN.bl dN;have aP:=aA.bl dN;clear dN fF fE aN aA;go_wp2_with fail;refine (T7 (Bc (E9 a 0) (E9 b 2)) rfl (E9 a 1) (E9 b 1) iF).mono ?_;rintro e iG ⟨rfl,dO⟩;have fJ:=K9 fH dO;have fK:=fI.bl dO;have aQ:=aO.bl dO;have aR:=aP.bl dO;clear dO fI fH aO aP;go_wp2_with fail;refine (T7 (M2 (Bc (E9 a 0) (E9 b 2)) (E9 a 1) (E9 b 1)) rfl (E9 a 2) (E9 b 0) iG).mono ?_;rintro e iH ⟨rfl,dP⟩;have fL:=K9 fJ dP;have fM:=fK.bl dP;have aS:=aQ.bl dP;have aT:=aR.bl dP;clear dP fK fJ aQ aR;go_wp2_with fail;refine (T7 (M2 (M2 (Bc (E9 a 0) (E9 b 2)) (E9 a 1) (E9 b 1)) (E9 a 2) (E9 b 0)) rfl (19*E9 a 3) (E9 b 4) iH).mono ?_;rintro e iI ⟨rfl,dQ⟩;have fN:=K9 fL dQ;have fO:=fM.bl dQ;have aU:=aS.bl dQ;have aV:=aT.bl dQ;clear dQ fM fL aS aT
 go_wp2_with fail;refine (T7 (M2 (M2 (M2 (Bc (E9 a 0) (E9 b 2)) (E9 a 1) (E9 b 1)) (E9 a 2) (E9 b 0)) (19*E9 a 3) (E9 b 4)) rfl (19*E9 a 4) (E9 b 3) iI).mono ?_;rintro e aW ⟨rfl,dR⟩;have fP:=K9 fN dR;have fQ:=fO.bl dR;have aX:=aU.bl dR;have aY:=aV.bl dR;clear dR fO fN aU aV;rw[show M2 (M2 (M2 (M2 (Bc (E9 a 0) (E9 b 2)) (E9 a 1) (E9 b 1)) (E9 a 2) (E9 b 0)) (19*E9 a 3) (E9 b 4)) (19*E9 a 4) (E9 b 3)=Te a b from rfl];obtain⟨cT,aF⟩:=F9 (D8 (aW.alloc (Obj.cells (C9 (J2 2)).toArray 211)) ⟨aW.heap.size,0,none⟩ (C9 (Te a b)));have aB:Bk cT aW.heap.size 211 (C9 (Te a b)):=by rw[aF];exact Bk.fresh64 aW _ (by simp)
 have dS:Below aW.heap.size aW cT:=by rw[aF];exact C5 (Aw _ _) (Nat.le_refl _) _
 have fR:=K9 fP dS;have fS:=fQ.bl dS;have aZ:=aX.bl dS;have bA:=aY.bl dS;have dT:=Bu aW 211 (J2 2) 2 _ (by simp) rfl;obtain⟨p2,fT⟩:=F9 (aW.heap.size);have cR:∀x y,(Calls Tryz.prog 131 #[.int .u64 (J4 x),.int .u64 (J4 y)] cT fun e w'=>e=.returned (H9 (Bc x y))∧Below cT.heap.size cT w'):=fun x y=>U9 x y cT;clear cR;clear dS fQ fP aX aY;have dU:=Lib.hid aF;clear aF;go_wp2_with fail;rw[←dU.out];rw[←fT]at aB ⊢;clear fT dT dU;refine (U9 (E9 a 0) (E9 b 3) cT).mono ?_;rintro e iJ ⟨rfl,dD⟩;have fU:=K9 fR dD;have fV:=fS.bl dD;have bB:=aZ.bl dD;have bC:=bA.bl dD;have bD:=aB.bl dD;clear dD fS fR aZ bA aB;go_wp2_with fail;refine (T7 (Bc (E9 a 0) (E9 b 3)) rfl (E9 a 1) (E9 b 2) iJ).mono ?_;rintro e iK ⟨rfl,dE⟩;have fW:=K9 fU dE;have fX:=fV.bl dE;have bE:=bB.bl dE;have bF:=bC.bl dE;have bG:=bD.bl dE;clear dE fV fU bB bC bD;go_wp2_with fail;refine (T7 (M2 (Bc (E9 a 0) (E9 b 3)) (E9 a 1) (E9 b 2)) rfl (E9 a 2) (E9 b 1) iK).mono ?_;rintro e iL ⟨rfl,dF⟩;have fY:=K9 fW dF;have fZ:=fX.bl dF;have bH:=bE.bl dF;have bI:=bF.bl dF;have bJ:=bG.bl dF;clear dF fX fW bE bF bG;go_wp2_with fail;refine (T7 (M2 (M2 (Bc (E9 a 0) (E9 b 3)) (E9 a 1) (E9 b 2)) (E9 a 2) (E9 b 1)) rfl (E9 a 3) (E9 b 0) iL).mono ?_;rintro e iM ⟨rfl,dG⟩
 have gA:=K9 fY dG;have gB:=fZ.bl dG;have bK:=bH.bl dG;have bL:=bI.bl dG;have bM:=bJ.bl dG;clear dG fZ fY bH bI bJ;go_wp2_with fail;refine (T7 (M2 (M2 (M2 (Bc (E9 a 0) (E9 b 3)) (E9 a 1) (E9 b 2)) (E9 a 2) (E9 b 1)) (E9 a 3) (E9 b 0)) rfl (19*E9 a 4) (E9 b 4) iM).mono ?_;rintro e bN ⟨rfl,dH⟩;have gC:=K9 gA dH;have gE:=gB.bl dH;have bO:=bK.bl dH;have bP:=bL.bl dH;have bQ:=bM.bl dH;clear dH gB gA bK bL bM;rw[show M2 (M2 (M2 (M2 (Bc (E9 a 0) (E9 b 3)) (E9 a 1) (E9 b 2)) (E9 a 2) (E9 b 1)) (E9 a 3) (E9 b 0)) (19*E9 a 4) (E9 b 4)=Tp a b from rfl];obtain⟨cU,aG⟩:=F9 (D8 (bN.alloc (Obj.cells (C9 (J2 2)).toArray 211)) ⟨bN.heap.size,0,none⟩ (C9 (Tp a b)));have aC:Bk cU bN.heap.size 211 (C9 (Tp a b)):=by rw[aG];exact Bk.fresh64 bN _ (by simp)
 have dI:Below bN.heap.size bN cU:=by rw[aG];exact C5 (Aw _ _) (Nat.le_refl _) _
 have gF:=K9 gC dI;have gG:=gE.bl dI;have bR:=bO.bl dI;have bS:=bP.bl dI;have bT:=bQ.bl dI;have dV:=Bu bN 211 (J2 2) 2 _ (by simp) rfl;obtain⟨p3,gH⟩:=F9 (bN.heap.size);have cR:∀x y,(Calls Tryz.prog 131 #[.int .u64 (J4 x),.int .u64 (J4 y)] cU fun e w'=>e=.returned (H9 (Bc x y))∧Below cU.heap.size cU w'):=fun x y=>U9 x y cU;clear cR;clear dI gE gC bO bP bQ;have dW:=Lib.hid aG;clear aG;go_wp2_with fail;rw[←dW.out];rw[←gH]at aC ⊢;clear gH dV dW;refine (U9 (E9 a 0) (E9 b 4) cU).mono ?_;rintro e iN ⟨rfl,cV⟩;have gI:=K9 gF cV;have gJ:=gG.bl cV;have bU:=bR.bl cV;have bV:=bS.bl cV;have bX:=bT.bl cV;have bY:=aC.bl cV;clear cV gG gF bR bS bT aC;go_wp2_with fail;refine (T7 (Bc (E9 a 0) (E9 b 4)) rfl (E9 a 1) (E9 b 3) iN).mono ?_;rintro e iO ⟨rfl,cW⟩;have gK:=K9 gI cW;have gL:=gJ.bl cW;have bZ:=bU.bl cW;have cA:=bV.bl cW;have cB:=bX.bl cW;have cC:=bY.bl cW;clear cW gJ gI bU bV bX bY;go_wp2_with fail;refine (T7 (M2 (Bc (E9 a 0) (E9 b 4)) (E9 a 1) (E9 b 3)) rfl (E9 a 2) (E9 b 2) iO).mono ?_;rintro e iP ⟨rfl,cX⟩;have gM:=K9 gK cX;have gN:=gL.bl cX;have cD:=bZ.bl cX;have cE:=cA.bl cX;have cF:=cB.bl cX;have cG:=cC.bl cX;clear cX gL gK bZ cA cB cC;go_wp2_with fail
 refine (T7 (M2 (M2 (Bc (E9 a 0) (E9 b 4)) (E9 a 1) (E9 b 3)) (E9 a 2) (E9 b 2)) rfl (E9 a 3) (E9 b 1) iP).mono ?_;rintro e iQ ⟨rfl,cY⟩;have gO:=K9 gM cY;have gP:=gN.bl cY;have cH:=cD.bl cY;have cI:=cE.bl cY;have cJ:=cF.bl cY;have cK:=cG.bl cY;clear cY gN gM cD cE cF cG;go_wp2_with fail;refine (T7 (M2 (M2 (M2 (Bc (E9 a 0) (E9 b 4)) (E9 a 1) (E9 b 3)) (E9 a 2) (E9 b 2)) (E9 a 3) (E9 b 1)) rfl (E9 a 4) (E9 b 0) iQ).mono ?_;rintro e cL ⟨rfl,cZ⟩;have gQ:=K9 gO cZ;have gR:=gP.bl cZ;have cM:=cH.bl cZ;have cN:=cI.bl cZ;have cO:=cJ.bl cZ;have cP:=cK.bl cZ;clear cZ gP gO cH cI cJ cK;rw[show M2 (M2 (M2 (M2 (Bc (E9 a 0) (E9 b 4)) (E9 a 1) (E9 b 3)) (E9 a 2) (E9 b 2)) (E9 a 3) (E9 b 1)) (E9 a 4) (E9 b 0)=Ub a b from rfl];obtain⟨Lh,aH⟩:=F9 (D8 (cL.alloc (Obj.cells (C9 (J2 2)).toArray 211)) ⟨cL.heap.size,0,none⟩ (C9 (Ub a b)));have dX:Bk Lh cL.heap.size 211 (C9 (Ub a b)):=by rw[aH];exact Bk.fresh64 cL _ (by simp)
 have dB:Below cL.heap.size cL Lh:=by rw[aH];exact C5 (Aw _ _) (Nat.le_refl _) _
 have iR:=K9 gQ dB;have iS:=gR.bl dB;have dY:=cM.bl dB;have dZ:=cN.bl dB;have eA:=cO.bl dB;have eB:=cP.bl dB;have eC:=Bu cL 211 (J2 2) 2 _ (by simp) rfl;obtain⟨p4,iT⟩:=F9 (cL.heap.size);clear dB gR gQ cM cN cO cP;have dC:=Lib.hid aH;clear aH;have q0:=dY.row64 (n:=2) (by simp);have q1:=dZ.row64 (n:=2) (by simp);have q2:=eA.row64 (n:=2) (by simp);have q3:=eB.row64 (n:=2) (by simp);have q4:=dX.row64 (n:=2) (by simp);clear iT;rw[dC.out]at q0 q1 q2 q3 q4;go_wp2_with fail;rw[←dC.out];clear q0 q1 q2 q3 q4 eC dC;refine (Vh (Uh a b) (Ui a b) (Te a b) (Tp a b) (Ub a b) rfl rfl rfl rfl rfl Lh).mono ?_;rintro e iW ⟨rfl,gS⟩;have gT:=iS.bl gS;have iU:=K9 iR gS;have iV:=Gy 5 gT (by simp);go_wp2_with fail;refine bodyPost_ret (E5 rfl _ _ _ _ _ _ rfl (gT.puts (vs:=C9 (C4 a b)) (by simp)) Q9 rfl (by simp[Z6])) rfl ⟨rfl,C5 iU (by show w.heap.size≤w.heap.size+2;omega) _⟩
def A2g (a:List UInt64):List UInt64:=M2 (M2 (Bc (E9 a 0) (E9 a 0)) (2*E9 a 1) (19*E9 a 4)) (2*E9 a 2) (19*E9 a 3)
@[simp, go_sem] theorem C9f (a : List UInt64) : (A2g a).length = 2 := rfl
def A3d (a:List UInt64):List UInt64:=M2 (M2 (Bc (2*E9 a 0) (E9 a 1)) (2*E9 a 2) (19*E9 a 4)) (E9 a 3) (19*E9 a 3)
@[simp, go_sem] theorem D0p (a : List UInt64) : (A3d a).length = 2 := rfl
def A1h (a:List UInt64):List UInt64:=M2 (M2 (Bc (2*E9 a 0) (E9 a 2)) (E9 a 1) (E9 a 1)) (2*E9 a 3) (19*E9 a 4)
@[simp, go_sem] theorem C6z (a : List UInt64) : (A1h a).length = 2 := rfl
def A1p (a:List UInt64):List UInt64:=M2 (M2 (Bc (2*E9 a 0) (E9 a 3)) (2*E9 a 1) (E9 a 2)) (E9 a 4) (19*E9 a 4)
@[simp, go_sem] theorem C9o (a : List UInt64) : (A1p a).length = 2 := rfl
def A2h (a:List UInt64):List UInt64:=M2 (M2 (Bc (2*E9 a 0) (E9 a 4)) (2*E9 a 1) (E9 a 3)) (E9 a 2) (E9 a 2)
@[simp, go_sem] theorem C8f (a : List UInt64) : (A2h a).length = 2 := rfl
def Px (a:List UInt64):List UInt64:=Oc (A2g a) (A3d a) (A1h a) (A1p a) (A2h a)
@[simp, go_sem] theorem D2w (a : List UInt64) : (Px a).length = 5 := rfl
theorem Sg (a:List UInt64) (ha:a.length=5) (w:World):Calls Tryz.prog 148 #[H9 a] w fun e w'=>e=.returned (H9 (Px a))∧Below w.heap.size w w':=by
 obtain⟨W0,dB⟩:=F9 (((w.alloc (Obj.cells (C9 a).toArray 138)).alloc (Obj.cells (C9 (J2 5)).toArray 138)));have hL:W0=M9 w [(138,C9 a),(138,C9 (J2 5))]:=dB;have B0:Below w.heap.size w W0:=by rw[hL];exact Fk _ _
 have K0:Bk W0 w.heap.size 138 (C9 a):=by rw[hL];exact Z7 _ w 0 _ _ rfl
 have R0:Bk W0 (w.heap.size+1) 138 (C9 (J2 5)):=by rw[hL];exact Z7 _ w 1 _ _ rfl
 clear hL;have eH:=K0.at_ (J6 (l:=a) (i:=0) (by omega));have eI:=K0.at_ (J6 (l:=a) (i:=1) (by omega));have eJ:=K0.at_ (J6 (l:=a) (i:=2) (by omega));have eK:=K0.at_ (J6 (l:=a) (i:=3) (by omega));have eL:=K0.at_ (J6 (l:=a) (i:=4) (by omega));go_enter Tryz.func148,Tryz.ntmps148;go_wp2_with fail;rw[←dB];clear dB;go_quiet (fail);obtain⟨W1,cX⟩:=F9 (W0.drewN nq);rw[←cX];have B1:Below w.heap.size w W1:=by rw[cX];exact N7 B0 _
 have R1:Bk W1 (w.heap.size+1) 138 (C9 (J2 5)):=by rw[cX];exact R0
 clear cX eH eI eJ eK eL K0 R0 B0;go_wp2_with fail;refine (U9 (E9 a 0) (E9 a 0) W1).mono ?_;rintro e w2 ⟨rfl,b2⟩;have B2:=K9 B1 b2;have R2:=R1.bl b2;clear b2 R1 B1;go_wp2_with fail;refine (T7 (Bc (E9 a 0) (E9 a 0)) rfl (2*E9 a 1) (19*E9 a 4) w2).mono ?_;rintro e w3 ⟨rfl,b3⟩;have B3:=K9 B2 b3;have R3:=R2.bl b3;clear b3 R2 B2;go_wp2_with fail;refine (T7 (M2 (Bc (E9 a 0) (E9 a 0)) (2*E9 a 1) (19*E9 a 4)) rfl (2*E9 a 2) (19*E9 a 3) w3).mono ?_;rintro e w4 ⟨rfl,b4⟩;have B4:=K9 B3 b4;have R4:=R3.bl b4;clear b4 R3 B3;rw[show M2 (M2 (Bc (E9 a 0) (E9 a 0)) (2*E9 a 1) (19*E9 a 4)) (2*E9 a 2) (19*E9 a 3)=A2g a from rfl];obtain⟨W5,cY⟩:=F9 (D8 (w4.alloc (Obj.cells (C9 (J2 2)).toArray 211)) ⟨w4.heap.size,0,none⟩ (C9 (A2g a)));have bO:Bk W5 w4.heap.size 211 (C9 (A2g a)):=by rw[cY];exact Bk.fresh64 w4 _ (by simp)
 have b5:Below w4.heap.size w4 W5:=by rw[cY];exact C5 (Aw _ _) (Nat.le_refl _) _
 have B5:=K9 B4 b5;have R5:=R4.bl b5;have cD:=Bu w4 211 (J2 2) 2 _ (by simp) rfl;obtain⟨p0,dD⟩:=F9 (w4.heap.size);have bP:∀x y,(Calls Tryz.prog 131 #[.int .u64 (J4 x),.int .u64 (J4 y)] W5 fun e w'=>e=.returned (H9 (Bc x y))∧Below W5.heap.size W5 w'):=fun x y=>U9 x y W5;clear bP;clear b5 R4 B4;have dE:=Lib.hid cY;clear cY;go_wp2_with fail;rw[←dE.out];rw[←dD]at bO ⊢;clear dD cD dE;refine (U9 (2*E9 a 0) (E9 a 1) W5).mono ?_;rintro e w6 ⟨rfl,b6⟩;have B6:=K9 B5 b6;have R6:=R5.bl b6;have cE:=bO.bl b6;clear b6 R5 B5 bO;go_wp2_with fail;refine (T7 (Bc (2*E9 a 0) (E9 a 1)) rfl (2*E9 a 2) (19*E9 a 4) w6).mono ?_;rintro e w7 ⟨rfl,b7⟩;have B7:=K9 B6 b7;have R7:=R6.bl b7;have cF:=cE.bl b7;clear b7 R6 B6 cE;go_wp2_with fail;refine (T7 (M2 (Bc (2*E9 a 0) (E9 a 1)) (2*E9 a 2) (19*E9 a 4)) rfl (E9 a 3) (19*E9 a 3) w7).mono ?_;rintro e w8 ⟨rfl,b8⟩;have B8:=K9 B7 b8;have R8:=R7.bl b8;have cG:=cF.bl b8;clear b8 R7 B7 cF;rw[show M2 (M2 (Bc (2*E9 a 0) (E9 a 1)) (2*E9 a 2) (19*E9 a 4)) (E9 a 3) (19*E9 a 3)=A3d a from rfl];obtain⟨W9,cZ⟩:=F9 (D8 (w8.alloc (Obj.cells (C9 (J2 2)).toArray 211)) ⟨w8.heap.size,0,none⟩ (C9 (A3d a)));have bQ:Bk W9 w8.heap.size 211 (C9 (A3d a)):=by rw[cZ];exact Bk.fresh64 w8 _ (by simp)
 have b9:Below w8.heap.size w8 W9:=by rw[cZ];exact C5 (Aw _ _) (Nat.le_refl _) _
 have B9:=K9 B8 b9;have R9:=R8.bl b9;have cH:=cG.bl b9;have cI:=Bu w8 211 (J2 2) 2 _ (by simp) rfl;obtain⟨p1,dF⟩:=F9 (w8.heap.size);have bP:∀x y,(Calls Tryz.prog 131 #[.int .u64 (J4 x),.int .u64 (J4 y)] W9 fun e w'=>e=.returned (H9 (Bc x y))∧Below W9.heap.size W9 w'):=fun x y=>U9 x y W9;clear bP;clear b9 R8 B8 cG;have dG:=Lib.hid cZ;clear cZ;go_wp2_with fail;rw[←dG.out];rw[←dF]at bQ ⊢;clear dF cI dG;refine (U9 (2*E9 a 0) (E9 a 2) W9).mono ?_;rintro e eM ⟨rfl,cJ⟩;have dH:=K9 B9 cJ;have dI:=R9.bl cJ;have aF:=cH.bl cJ;have aG:=bQ.bl cJ;clear cJ R9 B9 cH bQ;go_wp2_with fail;refine (T7 (Bc (2*E9 a 0) (E9 a 2)) rfl (E9 a 1) (E9 a 1) eM).mono ?_;rintro e eN ⟨rfl,cK⟩;have dJ:=K9 dH cK;have dK:=dI.bl cK;have aH:=aF.bl cK;have aI:=aG.bl cK;clear cK dI dH aF aG;go_wp2_with fail;refine (T7 (M2 (Bc (2*E9 a 0) (E9 a 2)) (E9 a 1) (E9 a 1)) rfl (2*E9 a 3) (19*E9 a 4) eN).mono ?_;rintro e aJ ⟨rfl,cL⟩;have dL:=K9 dJ cL;have dM:=dK.bl cL;have aK:=aH.bl cL;have aL:=aI.bl cL;clear cL dK dJ aH aI;rw[show M2 (M2 (Bc (2*E9 a 0) (E9 a 2)) (E9 a 1) (E9 a 1)) (2*E9 a 3) (19*E9 a 4)=A1h a from rfl];obtain⟨bR,aC⟩:=F9 (D8 (aJ.alloc (Obj.cells (C9 (J2 2)).toArray 211)) ⟨aJ.heap.size,0,none⟩ (C9 (A1h a)));have aA:Bk bR aJ.heap.size 211 (C9 (A1h a)):=by rw[aC];exact Bk.fresh64 aJ _ (by simp)
 have cM:Below aJ.heap.size aJ bR:=by rw[aC];exact C5 (Aw _ _) (Nat.le_refl _) _
 have dN:=K9 dL cM;have dO:=dM.bl cM;have aM:=aK.bl cM;have aN:=aL.bl cM;have cN:=Bu aJ 211 (J2 2) 2 _ (by simp) rfl;obtain⟨p2,dP⟩:=F9 (aJ.heap.size);have bP:∀x y,(Calls Tryz.prog 131 #[.int .u64 (J4 x),.int .u64 (J4 y)] bR fun e w'=>e=.returned (H9 (Bc x y))∧Below bR.heap.size bR w'):=fun x y=>U9 x y bR;clear bP;clear cM dM dL aK aL;have cO:=Lib.hid aC;clear aC;go_wp2_with fail;rw[←cO.out];rw[←dP]at aA ⊢;clear dP cN cO;refine (U9 (2*E9 a 0) (E9 a 3) bR).mono ?_;rintro e eO ⟨rfl,bZ⟩;have dQ:=K9 dN bZ;have dR:=dO.bl bZ;have aO:=aM.bl bZ;have aP:=aN.bl bZ;have aQ:=aA.bl bZ;clear bZ dO dN aM aN aA;go_wp2_with fail;refine (T7 (Bc (2*E9 a 0) (E9 a 3)) rfl (2*E9 a 1) (E9 a 2) eO).mono ?_;rintro e eP ⟨rfl,cA⟩;have dS:=K9 dQ cA;have dT:=dR.bl cA;have aR:=aO.bl cA;have aS:=aP.bl cA;have aT:=aQ.bl cA;clear cA dR dQ aO aP aQ;go_wp2_with fail;refine (T7 (M2 (Bc (2*E9 a 0) (E9 a 3)) (2*E9 a 1) (E9 a 2)) rfl (E9 a 4) (19*E9 a 4) eP).mono ?_;rintro e aU ⟨rfl,cB⟩;have dU:=K9 dS cB;have dV:=dT.bl cB;have aV:=aR.bl cB;have aW:=aS.bl cB;have aX:=aT.bl cB;clear cB dT dS aR aS aT;rw[show M2 (M2 (Bc (2*E9 a 0) (E9 a 3)) (2*E9 a 1) (E9 a 2)) (E9 a 4) (19*E9 a 4)=A1p a from rfl]
 obtain⟨bS,aD⟩:=F9 (D8 (aU.alloc (Obj.cells (C9 (J2 2)).toArray 211)) ⟨aU.heap.size,0,none⟩ (C9 (A1p a)));have aB:Bk bS aU.heap.size 211 (C9 (A1p a)):=by rw[aD];exact Bk.fresh64 aU _ (by simp)
 have cC:Below aU.heap.size aU bS:=by rw[aD];exact C5 (Aw _ _) (Nat.le_refl _) _
 have dW:=K9 dU cC;have dX:=dV.bl cC;have aY:=aV.bl cC;have aZ:=aW.bl cC;have bA:=aX.bl cC;have cP:=Bu aU 211 (J2 2) 2 _ (by simp) rfl;obtain⟨p3,dY⟩:=F9 (aU.heap.size);have bP:∀x y,(Calls Tryz.prog 131 #[.int .u64 (J4 x),.int .u64 (J4 y)] bS fun e w'=>e=.returned (H9 (Bc x y))∧Below bS.heap.size bS w'):=fun x y=>U9 x y bS;clear bP;clear cC dV dU aV aW aX;have cQ:=Lib.hid aD;clear aD;go_wp2_with fail;rw[←cQ.out];rw[←dY]at aB ⊢;clear dY cP cQ;refine (U9 (2*E9 a 0) (E9 a 4) bS).mono ?_;rintro e eQ ⟨rfl,bT⟩;have dZ:=K9 dW bT;have eA:=dX.bl bT;have bB:=aY.bl bT;have bC:=aZ.bl bT;have bD:=bA.bl bT;have bE:=aB.bl bT;clear bT dX dW aY aZ bA aB;go_wp2_with fail;refine (T7 (Bc (2*E9 a 0) (E9 a 4)) rfl (2*E9 a 1) (E9 a 3) eQ).mono ?_;rintro e eS ⟨rfl,bU⟩;have eB:=K9 dZ bU;have eC:=eA.bl bU;have bF:=bB.bl bU;have bG:=bC.bl bU;have bH:=bD.bl bU;have bI:=bE.bl bU;clear bU eA dZ bB bC bD bE;go_wp2_with fail;refine (T7 (M2 (Bc (2*E9 a 0) (E9 a 4)) (2*E9 a 1) (E9 a 3)) rfl (E9 a 2) (E9 a 2) eS).mono ?_;rintro e bJ ⟨rfl,bV⟩;have eD:=K9 eB bV;have eE:=eC.bl bV;have bK:=bF.bl bV;have bL:=bG.bl bV;have bM:=bH.bl bV;have bN:=bI.bl bV;clear bV eC eB bF bG bH bI
 rw[show M2 (M2 (Bc (2*E9 a 0) (E9 a 4)) (2*E9 a 1) (E9 a 3)) (E9 a 2) (E9 a 2)=A2h a from rfl];obtain⟨dC,aE⟩:=F9 (D8 (bJ.alloc (Obj.cells (C9 (J2 2)).toArray 211)) ⟨bJ.heap.size,0,none⟩ (C9 (A2h a)));have cR:Bk dC bJ.heap.size 211 (C9 (A2h a)):=by rw[aE];exact Bk.fresh64 bJ _ (by simp)
 have bX:Below bJ.heap.size bJ dC:=by rw[aE];exact C5 (Aw _ _) (Nat.le_refl _) _
 have eT:=K9 eD bX;have eU:=eE.bl bX;have cS:=bK.bl bX;have cT:=bL.bl bX;have cU:=bM.bl bX;have cV:=bN.bl bX;have cW:=Bu bJ 211 (J2 2) 2 _ (by simp) rfl;obtain⟨p4,eV⟩:=F9 (bJ.heap.size);clear bX eE eD bK bL bM bN;have bY:=Lib.hid aE;clear aE;have q0:=cS.row64 (n:=2) (by simp);have q1:=cT.row64 (n:=2) (by simp);have q2:=cU.row64 (n:=2) (by simp);have q3:=cV.row64 (n:=2) (by simp);have q4:=cR.row64 (n:=2) (by simp);clear eV;rw[bY.out]at q0 q1 q2 q3 q4;go_wp2_with fail;rw[←bY.out];clear q0 q1 q2 q3 q4 cW bY;refine (Vh (A2g a) (A3d a) (A1h a) (A1p a) (A2h a) rfl rfl rfl rfl rfl dC).mono ?_;rintro e eZ ⟨rfl,eF⟩;have eG:=eU.bl eF;have eX:=K9 eT eF;have eY:=Gy 5 eG (by simp);go_wp2_with fail;refine bodyPost_ret (E5 rfl _ _ _ _ _ _ rfl (eG.puts (vs:=C9 (Px a)) (by simp)) Q9 rfl (by simp[Z6])) rfl ⟨rfl,C5 eX (by show w.heap.size≤w.heap.size+1;omega) _⟩
section
variable {w W : World} {l : List (TypeId × List Value)} {t : TypeId} {cs : List Value}
theorem Ig (i : Nat) (h : W = M9 w l) (e : l[i]? = some (t, cs)) : Bk W (w.heap.size + i) t cs := h ▸ Z7 _ w i _ _ e
theorem Ko (h : W = M9 w l) (e : l[0]? = some (t, cs)) : Bk W w.heap.size t cs := h ▸ Z7 _ w 0 _ _ e
theorem Ki (h : W = M9 w l) : Below w.heap.size w W := h ▸ Fk _ _
theorem Za (n : Nat) (h : W = M9 w l) (e : l.length = n) : w.heap.size + n ≤ W.heap.size := by rw [h, Mv, e]; exact Nat.le_refl _
theorem SL' (n : Nat) (h : W = M9 w l) (e : l.length = n) : W.heap.size = w.heap.size + n := by rw [h, Mv, e]
end
def A5o (a b:List UInt64) (j:Nat):UInt64:=E9 a j+E9 b j
def Yw (a b:List UInt64) (j:Nat):UInt64:=E9 a j+(9007199254740988-E9 b j)
def D2z (a b:List UInt64):List UInt64:=Et (A5o a b) (E9 a) 5 5
def C2m (a b:List UInt64):List UInt64:=(Et (Yw a b) (E9 a) 5 5).set 0 (Yw a b 0-72)
@[simp, go_sem] theorem D0v (a b : List UInt64) : (D2z a b).length = 5 := rfl
@[simp, go_sem] theorem D1z (a b : List UInt64) : (C2m a b).length = 5 := rfl
def C8 (a b:List UInt64):List UInt64:=Gh (D2z a b)
def E4 (a b:List UInt64):List UInt64:=Gh (C2m a b)
@[simp, go_sem] theorem D1c (a b : List UInt64) : (C8 a b).length = 5 := rfl
@[simp, go_sem] theorem D2k (a b : List UInt64) : (E4 a b).length = 5 := rfl
def E0 (v:UInt64):List UInt64:=[v &&& 2251799813685247,v >>> 51,0,0,0]
@[simp, go_sem] theorem C6t (v : UInt64) : (E0 v).length = 5 := rfl
def Bm:Nat→List UInt64→List UInt64
 | 0,a=>a
 | n+1,a=>Px (Bm n a)
@[simp, go_sem] theorem A7v {a : List UInt64} (ha : a.length = 5) : ∀ n, (Bm n a).length = 5
 | 0=>ha
 | _+1=>rfl
theorem Hk (a b:List UInt64) (ha:a.length=5) (hb:b.length=5) (w:World):Calls Tryz.prog 127 #[H9 a,H9 b] w fun e w'=>e=.returned (H9 (C8 a b))∧Below w.heap.size w w':=by
 obtain⟨W0,aA⟩:=F9 (((w.alloc (Obj.cells (C9 a).toArray 138)).alloc (Obj.cells (C9 b).toArray 138)).alloc (Obj.cells (C9 (J2 5)).toArray 138));have hL:W0=M9 w [(138,C9 a),(138,C9 b),(138,C9 (J2 5))]:=aA;have B0:=Ki hL;have A0:=Ko hL rfl;have L0:=Ig 1 hL rfl;have R0:=Ig 2 hL rfl;clear hL;go_enter Tryz.func127,Tryz.ntmps127;go_wp2_with fail;rw[←aA];clear aA;rw[←Nz (f:=A5o a b) ha]at A0;go_loopw [6] (fun t wr=>∃i:Nat,i≤5∧t=.int .i64 (i:Int)∧Bk wr w.heap.size 138 (C9 (Et (A5o a b) (E9 a) 5 i))∧Bk wr (w.heap.size+1) 138 (C9 b)∧Bk wr (w.heap.size+2) 138 (C9 (J2 5))∧Below w.heap.size w wr) (fun t _=>5-(intOf t).toNat)
 case atStart=>exact ⟨0,by omega,rfl,A0,L0,R0,B0⟩
 case round=>
  clear A0 L0 R0 B0;obtain⟨i,hi,rfl,K,L,R,B⟩:=hrel;by_cases hlt:i<5
  ·have k0:=K.at_ (J6 (l:=Et (A5o a b) (E9 a) 5 i) (i:=i) (by simpa using hlt));have f0:=K.frozen i;have l0:=L.at_ (J6 (l:=b) (i:=i) (by omega));rw[He hlt,if_neg (by omega)]at k0;have K3:=K.set_ i (.int .u64 (J4 (A5o a b i)));rw[Af,Js (f:=A5o a b) (g:=E9 a) hlt rfl]at K3;have L3:=L.far (p:=⟨w.heap.size,i,none⟩) (by simp) (.int .u64 (J4 (A5o a b i)));have R3:=R.far (p:=⟨w.heap.size,i,none⟩) (by simp) (.int .u64 (J4 (A5o a b i)));clear K L R;go_wp2_with fail;refine Y7 11 (by kernel_rfl) (by kernel_rfl) ?_;simp only[List.take_succ_cons,List.take_zero,List.drop_succ_cons,List.drop_zero];repeat (go_big_quiet_step (fail))
   refine wpQuiet_nil ?_;rintro w6 ⟨aB,rfl⟩;go_wp2_with fail;go_roundw;case rel=>exact ⟨i+1,by omega,by go_num,K3,L3,R3,(N7 B aB).setCell (by simp) _⟩
   case measure=>simp[intOf];omega
  ·obtain rfl:i=5:=by omega
   have e5:((5:Nat):Int)=5:=rfl;rw[e5];clear e5;have rk:=K.row64 (n:=5) (by simp);go_wp2_with fail;refine (Jv (Et (A5o a b) (E9 a) 5 5) (by simp) wr).mono ?_;rintro e w2 ⟨rfl,b2⟩;have R2:=R.bl b2;have B2:=K9 B b2;have aC:=Gy 5 R2 (by simp);go_wp2_with fail;refine bodyPost_ret (E5 rfl _ _ _ _ _ _ rfl (R2.puts (vs:=C9 (C8 a b)) (by simp)) Q9 rfl (by simp[Z6])) rfl ⟨rfl,C5 B2 (by show w.heap.size≤w.heap.size+2;omega) _⟩
theorem Ft (a b:List UInt64) (ha:a.length=5) (hb:b.length=5) (w:World):Calls Tryz.prog 128 #[H9 a,H9 b] w fun e w'=>e=.returned (H9 (E4 a b))∧Below w.heap.size w w':=by
 obtain⟨W0,aB⟩:=F9 (((w.alloc (Obj.cells (C9 a).toArray 138)).alloc (Obj.cells (C9 b).toArray 138)).alloc (Obj.cells (C9 (J2 5)).toArray 138));have hL:W0=M9 w [(138,C9 a),(138,C9 b),(138,C9 (J2 5))]:=aB;have B0:=Ki hL;have A0:=Ko hL rfl;have L0:=Ig 1 hL rfl;have R0:=Ig 2 hL rfl;clear hL;go_enter Tryz.func128,Tryz.ntmps128;go_wp2_with fail;rw[←aB];clear aB;rw[←Nz (f:=Yw a b) ha]at A0;go_loopw [6] (fun t wr=>∃i:Nat,i≤5∧t=.int .i64 (i:Int)∧Bk wr w.heap.size 138 (C9 (Et (Yw a b) (E9 a) 5 i))∧Bk wr (w.heap.size+1) 138 (C9 b)∧Bk wr (w.heap.size+2) 138 (C9 (J2 5))∧Below w.heap.size w wr) (fun t _=>5-(intOf t).toNat)
 case atStart=>exact ⟨0,by omega,rfl,A0,L0,R0,B0⟩
 case round=>
  clear A0 L0 R0 B0;obtain⟨i,hi,rfl,K,L,R,B⟩:=hrel;by_cases hlt:i<5
  ·have k0:=K.at_ (J6 (l:=Et (Yw a b) (E9 a) 5 i) (i:=i) (by simpa using hlt));have f0:=K.frozen i;have l0:=L.at_ (J6 (l:=b) (i:=i) (by omega));rw[He hlt,if_neg (by omega)]at k0;have K3:=K.set_ i (.int .u64 (J4 (Yw a b i)));rw[Af,Js (f:=Yw a b) (g:=E9 a) hlt rfl]at K3;have L3:=L.far (p:=⟨w.heap.size,i,none⟩) (by simp) (.int .u64 (J4 (Yw a b i)));have R3:=R.far (p:=⟨w.heap.size,i,none⟩) (by simp) (.int .u64 (J4 (Yw a b i)));clear K L R;go_wp2_with fail;refine Y7 12 (by kernel_rfl) (by kernel_rfl) ?_;simp only[List.take_succ_cons,List.take_zero,List.drop_succ_cons,List.drop_zero];repeat (go_big_quiet_step (fail))
   refine wpQuiet_nil ?_;rintro w6 ⟨aC,rfl⟩;go_wp2_with fail;go_roundw;case rel=>exact ⟨i+1,by omega,by go_num,K3,L3,R3,(N7 B aC).setCell (by simp) _⟩
   case measure=>simp[intOf];omega
  ·obtain rfl:i=5:=by omega
   have e5:((5:Nat):Int)=5:=rfl;rw[e5];clear e5;have k0:=K.at_ (J6 (l:=Et (Yw a b) (E9 a) 5 5) (i:=0) (by simp));have f0:=K.frozen 0;rw[He (by omega),if_pos (by omega)]at k0;obtain⟨W1,aA⟩:=F9 (wr.setCell ⟨w.heap.size,0,none⟩ (.int .u64 (J4 (Yw a b 0-72))));have K1:Bk W1 w.heap.size 138 (C9 (C2m a b)):=by have:=K.set_ 0 (.int .u64 (J4 (Yw a b 0-72)));rw[Af]at this;rw[aA];exact this
   have R1:Bk W1 (w.heap.size+2) 138 (C9 (J2 5)):=by rw[aA];exact R.far (by simp) _
   have B1:Below w.heap.size w W1:=by rw[aA];exact B.setCell (by simp) _
   have rk:=K1.row64 (n:=5) (by simp);rw[aA]at rk;clear K R L;go_wp2_with fail;rw[←aA];clear aA rk;refine (Jv (C2m a b) rfl W1).mono ?_;rintro e w2 ⟨rfl,b2⟩;have R2:=R1.bl b2;have B2:=K9 B1 b2;have aD:=Gy 5 R2 (by simp);go_wp2_with fail;refine bodyPost_ret (E5 rfl _ _ _ _ _ _ rfl (R2.puts (vs:=C9 (E4 a b)) (by simp)) Q9 rfl (by simp[Z6])) rfl ⟨rfl,C5 B2 (by show w.heap.size≤w.heap.size+2;omega) _⟩
theorem Le (v:UInt64) (w:World):Calls Tryz.prog 124 #[.int .u64 (J4 v)] w fun e w'=>e=.returned (H9 (E0 v))∧Below w.heap.size w w':=by
 obtain⟨W0,aA⟩:=F9 (w.alloc (Obj.cells (C9 (J2 5)).toArray 138));have B0:=BA' aA;have R0:=KN' aA;have aB:=Gy 5 R0 (by simp);rw[aA]at aB;go_enter Tryz.func124,Tryz.ntmps124;go_wp2_with fail;rw[←aA];refine bodyPost_ret (E5 rfl _ _ _ _ _ _ rfl (R0.puts (vs:=C9 (E0 v)) (by simp)) Q9 rfl (by simp[Z6])) rfl ⟨rfl,C5 B0 (Nat.le_refl _) _⟩
theorem Cn (a:List UInt64) (ha:a.length=5) (n:Nat) (hn:n≤1000000) (w:World):Calls Tryz.prog 130 #[H9 a,.int .i64 (n:Int)] w fun e w'=>e=.returned (H9 (Bm n a))∧Below w.heap.size w w':=by
 obtain⟨W0,aA⟩:=F9 ((w.alloc (Obj.cells (C9 a).toArray 138)).alloc (Obj.cells (C9 (J2 5)).toArray 138));have hL:W0=M9 w [(138,C9 a),(138,C9 (J2 5))]:=aA;have B0:=Ki hL;have A0:=Ko hL rfl;have R0:=Ig 1 hL rfl;clear hL;go_enter Tryz.func130,Tryz.ntmps130;go_wp2_with fail;rw[←aA];clear aA;go_loopw [6] (fun t wr=>∃i:Nat,i≤n∧t=.int .i64 (i:Int)∧Bk wr w.heap.size 138 (C9 (Bm i a))∧Bk wr (w.heap.size+1) 138 (C9 (J2 5))∧Below w.heap.size w wr) (fun t _=>n-(intOf t).toNat)
 case atStart=>exact ⟨0,by omega,rfl,A0,R0,B0⟩
 case round=>
  clear A0 R0 B0;obtain⟨i,hi,rfl,K,R,B⟩:=hrel;have hl:=A7v ha i;have rk:=K.row64 hl;by_cases hlt:i<n
  ·go_wp2_with fail;refine (Sg (Bm i a) hl wr).mono ?_;rintro e w1 ⟨rfl,b1⟩;have K1:=K.bl b1;have R1:=R.bl b1;have B1:=K9 B b1;have aB:T5 w1 ⟨w.heap.size,0,none⟩ 5=true:=K1.can (by simp[hl]);go_wp2_with fail;go_roundw;case rel=>exact ⟨i+1,by omega,by go_num,K1.puts (by simp[hl]),R1.putFar (by simp) _,C5 B1 (by simp) _⟩
   case measure=>simp[intOf];omega
  ·obtain rfl:i=n:=by omega
   have aB:=Gy 5 R (by simp);go_wp2_with fail;refine bodyPost_ret (E5 rfl _ _ _ _ _ _ rfl (R.puts (vs:=C9 (Bm i a)) (by simp[hl])) Q9 rfl (by simp[Z6,hl])) rfl ⟨rfl,C5 B (by simp) _⟩
theorem Bk.row8 {w:World} {g:Nat} {t:TypeId} {l:List UInt8} {n:Nat} (h:Bk w g t (c8 l)) (hl:l.length=n):J1 w ⟨g,0,none⟩ n=some (c8 l):=by have:=h.rows;rwa [J0,hl]at this
def Hb (a:List UInt64):List UInt64:=C4 (Bm 2 (Px a)) a
def Fs (a:List UInt64):List UInt64:=C4 (Hb a) (Px a)
def f5 (a:List UInt64):List UInt64:=C4 (Px (Fs a)) (Hb a)
def Xp (a:List UInt64):List UInt64:=C4 (Bm 5 (f5 a)) (f5 a)
def Pq (a:List UInt64):List UInt64:=C4 (Bm 10 (Xp a)) (Xp a)
def f50 (a:List UInt64):List UInt64:=C4 (Bm 10 (C4 (Bm 20 (Pq a)) (Pq a))) (Xp a)
def Jj (a:List UInt64):List UInt64:=C4 (Bm 50 (f50 a)) (f50 a)
def Ex (a:List UInt64):List UInt64:=C4 (Bm 50 (C4 (Bm 100 (Jj a)) (Jj a))) (f50 a)
def Bd (a:List UInt64):List UInt64:=C4 (Bm 5 (Ex a)) (Fs a)
@[simp, go_sem] theorem C7a (a : List UInt64) : (Hb a).length = 5 := rfl
@[simp, go_sem] theorem C4j (a : List UInt64) : (Fs a).length = 5 := rfl
@[simp, go_sem] theorem D7c (a : List UInt64) : (f5 a).length = 5 := rfl
@[simp, go_sem] theorem D4r (a : List UInt64) : (Xp a).length = 5 := rfl
@[simp, go_sem] theorem D3v (a : List UInt64) : (Pq a).length = 5 := rfl
@[simp, go_sem] theorem D4p (a : List UInt64) : (f50 a).length = 5 := rfl
@[simp, go_sem] theorem D0z (a : List UInt64) : (Jj a).length = 5 := rfl
@[simp, go_sem] theorem C9a (a : List UInt64) : (Ex a).length = 5 := rfl
@[simp, go_sem] theorem D2a (a : List UInt64) : (Bd a).length = 5 := rfl
end Go.Proofs.YtlegpkdighoflaaGreat
