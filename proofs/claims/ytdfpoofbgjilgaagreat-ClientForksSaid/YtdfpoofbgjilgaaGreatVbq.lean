/- A part of the proof of ClientForks. -/
import Derived.Test.YtdfpoofbgjilgaaGreatVbp
set_option linter.unusedVariables false
set_option linter.unusedSimpArgs false
set_option maxRecDepth 100000
set_option maxHeartbeats 40000000
namespace Go.Proofs.YtdfpoofbgjilgaaGreat
open Go Go.RowKit Sh
theorem A9k:∀k<3,∀s<k+1,∀t<k+1,k<(Ck (Ef s (2*k+1)) (Ef t (2*k+1))).length∧Ck (Ef t (2*k+1)) (Ef s (2*k+1))=Ck (Ef s (2*k+1)) (Ef t (2*k+1))∧
 (∀x∈Ck (Ef s (2*k+1)) (Ef t (2*k+1)),(Ef s (2*k+1)).count x=1∧(Ef t (2*k+1)).count x=1)∧(Ck (Ef s (2*k+1)) (Ef t (2*k+1))).Pairwise (· < ·):=by decide
def D1r (o:Int):Nat:=(U8 o % 3).toNat
theorem D6l (o:Int):D1r o<3:=by
 unfold D1r;rw[UInt64.toNat_mod];exact Nat.mod_lt _ (by decide)
theorem C1u (o:Int):(C8 (U8 o)).tmod 3=((D1r o:Nat):Int):=by unfold D1r C8;rw[UInt64.toNat_mod];rfl
@[go_sem] theorem F4v (w : World) (raw : Result Next) (c : UInt8) : A8c w raw (.int .u8 (n8 c)) = .ok (.value (A8 (h1 c))) w := by
 have:=c.toNat_lt;have h:0≤n8 c∧n8 c<256:=by unfold n8;omega
 have h2:UInt8.ofNat (n8 c).toNat=c:=by unfold n8;simp
 have e:A8c w raw (.int .u8 (n8 c))=if 0≤n8 c∧n8 c<256 then .ok (.value (A8 (h1 (UInt8.ofNat (n8 c).toNat)))) w else raw:=rfl;rw[e,if_pos h,h2]
theorem C6k {v:UInt64} (h:Ni v=false):C8 v≠0:=fun e=>by
 unfold Ni at h;rw[e]at h;exact absurd h (by decide)
theorem B5t (o1 o2:Bool) (v1 v2:UInt64) (h1 h2:List UInt8):Ce (Th o1 v1) (Xt o1 v1 h1) (rtE o1 v1) (Th o2 v2) (Xt o2 v2 h2) (rtE o2 v2) =
 ((rtE o1 v1 != 0)||((rtE o2 v2 != 0)||((Th o1 v1 != Th o2 v2)||((Th o1 v1==Th o2 v2)&&(Xt o1 v1 h1==Xt o2 v2 h2))))):=by
 unfold Ce;cases o1 with
 | false=>rw[A5q];rfl
 | true=>
  cases hb:Ni v1 with
  | true=>rw[A8l hb];rfl
  | false=>
   rw[B5w hb,B5o hb];have:(C8 v1==0)=false:=beq_eq_false_iff_ne.2 (C6k hb);rw[this];rfl
theorem A8m (o1 o2:Bool) (v1 v2:UInt64) (h1 h2:List UInt8):Ce (Th o2 v2) (Xt o2 v2 h2) (rtE o2 v2) (Th o1 v1) (Xt o1 v1 h1) (rtE o1 v1)=Ce (Th o1 v1) (Xt o1 v1 h1) (rtE o1 v1) (Th o2 v2) (Xt o2 v2 h2) (rtE o2 v2):=by
 rw[B5t,B5t];have e1:(Th o2 v2 != Th o1 v1)=(Th o1 v1 != Th o2 v2):=bne_comm;have e2:(Th o2 v2==Th o1 v1)=(Th o1 v1==Th o2 v2):=BEq.comm;have e3:(Xt o2 v2 h2==Xt o1 v1 h1)=(Xt o1 v1 h1==Xt o2 v2 h2):=BEq.comm;rw[e1,e2,e3];generalize (rtE o1 v1 != 0)=a;generalize (rtE o2 v2 != 0)=b;cases a<;>cases b<;>rfl
theorem Xg {l:List Int} {j:Nat} {y:Int} (x:Int) (h:l[j]?=some y):(l.take (j+1)).count x=(l.take j).count x+if (y==x)=true then 1 else 0:=by
 rw[List.take_add_one,h,List.count_append];simp[List.count_cons,List.count_nil]
theorem A8o (o:Bool) (v:UInt64) (h:List UInt8):Ce 0 (z8 32) 0 (Th o v) (Xt o v h) (rtE o v)=true:=by
 unfold Ce;cases (rtE o v != 0)<;>rfl
theorem clientForks_any (f a0 a1 a2 b0 b1 b2:Int) (w:World):Calls Tryz.prog 3 #[.int .i64 f,.agg #[.int .i64 a0,.int .i64 a1,.int .i64 a2],.agg #[.int .i64 b0,.int .i64 b1,.int .i64 b2]] w fun x w'=>x=.returned (.bool true)∧Below w.heap.size w w':=by
 obtain⟨W0,cW⟩:∃z,z=(w.alloc (Obj.cells #[.int .i64 a0,.int .i64 a1,.int .i64 a2] 22)).alloc (Obj.cells #[.int .i64 b0,.int .i64 b1,.int .i64 b2] 22):=⟨_,rfl⟩;have hL:W0=Q6 w [(22,[.int .i64 a0,.int .i64 a1,.int .i64 a2]),(22,[.int .i64 b0,.int .i64 b1,.int .i64 b2])]:=cW;have kA:Bk W0 w.heap.size 22 [.int .i64 a0,.int .i64 a1,.int .i64 a2]:=by rw[hL];exact E0 _ w 0 _ _ rfl
 have kB:Bk W0 (w.heap.size+1) 22 [.int .i64 b0,.int .i64 b1,.int .i64 b2]:=by rw[hL];exact E0 _ w 1 _ _ rfl
 have B0:Below w.heap.size w W0:=by rw[hL];exact H6 _ _
 go_enter Tryz.func3,Tryz.ntmps3;go_wp2_with fail;rw[←cW];clear cW hL;refine (B7d W0).mono ?_;rintro x w1 ⟨rfl,c1⟩;have cX:=kA.below c1 kA.lt;have cY:=kB.below c1 kB.lt;have B1:=C1 B0 c1 B0.size;have gG:=Pk f;have eX:=C1u f;have eY:=D6l f;obtain⟨k,hk⟩:∃k,k=D1r f:=⟨_,rfl⟩;rw[←hk]at eX eY;have gH:IntKind.i64.wrap (k:Int)=(k:Int):=IntWalk.i64_in _ (by omega);clear kA kB c1 B0 hk;go_wp2_with fail;obtain⟨n,hn⟩:∃n,n=3*k+1:=⟨_,rfl⟩;refine (C8j k n (by omega) hn w1).mono ?_;rintro x w2 ⟨rv,sv,rfl,cZ,c2,hr⟩;have HN:=Lib.hid hn;have cM:=cX.below c2 cX.lt;have dC:=cY.below c2 cY.lt;have B2:=C1 B1 c2 B1.size;obtain⟨As,cs,rfl,-,-⟩:=cZ.form;rw[T8]at *;have dD:=Lib.hid cZ;have HR:=Lib.hid hr;have eZ:=Lib.hid B1.size;have p0:=cM.at_ (i:=0) rfl;have p1:=cM.at_ (i:=1) rfl;have p2:=cM.at_ (i:=2) rfl;have gI:=Ke a2;obtain⟨s,hs⟩:∃s,s=B5h a0 k:=⟨_,rfl⟩;obtain⟨t,ht⟩:∃t,t=B5h b0 k:=⟨_,rfl⟩;obtain⟨m,hm⟩:∃m,m=2*k+1:=⟨_,rfl⟩;have HS:=Lib.hid hs;have HT:=Lib.hid ht;have HM:=Lib.hid hm;clear cX cY c2 B1 hn cZ hr gG eX gH hs ht hm;go_wp2_with fail;refine (Re _ (Z7 n 2) k n (by omega) HN.out (T8 n 2) dD.out a0 a1 (h1 (Co a2)) (X7 _) s m HS.out HM.out).mono ?_;rintro x w3 ⟨bx,sx,gx,rfl,hx,c3⟩;have dF:=dC.below c3 dC.lt;have B3:=C1 B2 c3 B2.size;have bQ:=Lib.hid ((dD.out.below c3).more c3.size)
 obtain⟨X,hX⟩:∃x:Ct,x=⟨J3 (U8 a1)++h1 (Co a2),Ef s m,wgL (Z7 n 2) 5 (J3 (U8 a1)++h1 (Co a2)) s m⟩:=⟨_,rfl⟩;rw[←hX]at hx;have aT:X.by_=Ef s m:=by rw[hX]
 have aU:X.sigs.length=m:=by rw[hX];exact Bx _ _ _ _ _
 have aV:X.body=J3 (U8 a1)++h1 (Co a2):=by rw[hX]
 obtain⟨X1,d1,X2,d2,X3,d3,e1,e2,e3⟩:=hx.form;have aA:X.body.length=40:=by rw[aV];simp[X7]
 rw[aA]at e1;rw[aT,Q1]at e2;rw[aU]at e3;subst e1 e2 e3;obtain⟨w4,bR⟩:∃z,z=w3.alloc (Obj.cells #[.slice X1 40 d1,.slice X2 m d2,.slice X3 m d3] 33):=⟨_,rfl⟩;have c4:Below w3.heap.size w3 w4:=by rw[bR];exact (Below.refl _ _).alloc (Nat.le_refl _) _
 have dG:Bk w4 w3.heap.size 33 [.slice X1 40 d1,.slice X2 m d2,.slice X3 m d3]:=by rw[bR];exact Bk.new w3 _ _
 have cN:=dF.below c4 dF.lt;have B4:=C1 B3 c4 B3.size;have dI:=C1 c3 c4 c3.size;have bS:=Lib.hid ((bQ.out.below c4).more c4.size);have fB:=Lib.hid ((hx.below c4).more c4.size);have q0:=cN.at_ (i:=0) rfl;have q1:=cN.at_ (i:=1) rfl;have q2:=cN.at_ (i:=2) rfl;have gJ:=Ke b2;rw[bR]at q0 q1 q2;have fC:=Lib.hid aT;have gK:=Lib.hid aU;have gL:=Lib.hid aV;have gM:=Lib.hid aA;clear cM dC dF c3 c4 B2 B3 dD bQ hx hX p0 p1 p2 gI aT aU aV aA;go_wp2_with fail;rw[←bR];clear bR q0 q1 q2;refine (Re _ (Z7 n 2) k n (by omega) HN.out (T8 n 2) bS.out b0 b1 (h1 (Co b2)) (X7 _) t m HT.out HM.out).mono ?_;rintro x w5 ⟨bx,sx,gx,rfl,hx,c5⟩;obtain⟨Y,hX⟩:∃x:Ct,x=⟨J3 (U8 b1)++h1 (Co b2),Ef t m,wgL (Z7 n 2) 5 (J3 (U8 b1)++h1 (Co b2)) t m⟩:=⟨_,rfl⟩;rw[←hX]at hx;have aT:Y.by_=Ef t m:=by rw[hX]
 have aU:Y.sigs.length=m:=by rw[hX];exact Bx _ _ _ _ _
 have aV:Y.body=J3 (U8 b1)++h1 (Co b2):=by rw[hX]
 obtain⟨Y1,f1,Y2,f2,Y3,f3,e1,e2,e3⟩:=hx.form;have aA:Y.body.length=40:=by rw[aV];simp[X7]
 rw[aA]at e1;rw[aT,Q1]at e2;rw[aU]at e3;subst e1 e2 e3;obtain⟨w6,aW⟩:∃z,z=w5.alloc (Obj.cells #[.slice Y1 40 f1,.slice Y2 m f2,.slice Y3 m f3] 33):=⟨_,rfl⟩;have c6:Below w5.heap.size w5 w6:=by rw[aW];exact (Below.refl _ _).alloc (Nat.le_refl _) _
 have bI:Bk w6 w5.heap.size 33 [.slice Y1 40 f1,.slice Y2 m f2,.slice Y3 m f3]:=by rw[aW];exact Bk.new w5 _ _
 have bJ:=C1 c5 c6 c5.size;have aL:=dG.below bJ dG.lt;have B6:=C1 B4 bJ B4.size;have gN:=C1 dI bJ dI.size;have fD:=Lib.hid ((fB.out.below bJ).more bJ.size);have fE:=Lib.hid ((hx.below c6).more c6.size);have fF:=Lib.hid aT;have gO:=Lib.hid aU;have gQ:=Lib.hid aV;have gR:=Lib.hid aA;have gT:∃gX,gX=w3.heap.size:=⟨_,rfl⟩;obtain⟨gX,dJ⟩:=gT;rw[←dJ]at aL;have x0:=aL.at_ (i:=0) rfl;have x1:=aL.at_ (i:=1) rfl;have x2:=aL.at_ (i:=2) rfl;rw[aW]at x0 x1 x2;rw[←dJ];clear dG cN hX c5 c6 bJ dI B4 bS fB hx aT aU aV aA gJ dJ;have gU:m≤5:=by have:=HM.out;omega
 have hz:(z8 32).length=32:=I1 32;have gV:rtL 0 (z8 32)=33:=Y5 hz;rcases HR.out with ⟨rfl,-⟩ | ⟨rb,mb,A,c,rfl,zrb,zmb,hR2⟩
 ·clear HR;go_wp2_with fail;rw[←aW];clear aW x0 x1 x2;refine (Ph X1 X2 X3 40 d1 m d2 m d3 (by decide) (by omega) w6).mono ?_;rintro x w7 ⟨rfl,c7⟩;have dK:=aL.below c7 aL.lt;have dL:=bI.below c7 bI.lt;have B7:=C1 B6 c7 B6.size;have aB:=(Bk.new w7 37 (Q9 0 (z8 32))).canrt hz;obtain⟨w8,aM⟩:∃z,z=C4 (w7.alloc (Obj.cells (Q9 0 (z8 32)).toArray 37)) ⟨w7.heap.size,0,none⟩ (Q9 0 (z8 32)):=⟨_,rfl⟩;have c8:Below w7.heap.size w7 w8:=by rw[aM];exact C0 ((Below.refl _ _).alloc (Nat.le_refl _) _) (Nat.le_refl _) _
  have bK:=dK.below c8 dK.lt;have aD:=dL.below c8 dL.lt;have B8:=C1 B7 c8 B7.size;have y0:=aD.at_ (i:=0) rfl;have y1:=aD.at_ (i:=1) rfl;have y2:=aD.at_ (i:=2) rfl;rw[aM]at y0 y1 y2;clear aL bI dK dL c7 c8 B6 B7;go_wp2_with fail;rw[←aM];clear aM aB y0 y1 y2;refine (Ph Y1 Y2 Y3 40 f1 m f2 m f3 (by decide) (by omega) w8).mono ?_;rintro x w9 ⟨rfl,c9⟩;have dM:=bK.below c9 bK.lt;have dO:=aD.below c9 aD.lt;have B9:=C1 B8 c9 B8.size;have aB:=(Bk.new w9 37 (Q9 0 (z8 32))).canrt hz;obtain⟨wa,aN⟩:∃z,z=C4 (w9.alloc (Obj.cells (Q9 0 (z8 32)).toArray 37)) ⟨w9.heap.size,0,none⟩ (Q9 0 (z8 32)):=⟨_,rfl⟩;have ca:Below w9.heap.size w9 wa:=by rw[aN];exact C0 ((Below.refl _ _).alloc (Nat.le_refl _) _) (Nat.le_refl _) _
  have aE:=dM.below ca dM.lt;have aF:=dO.below ca dO.lt;have Ba:=C1 B9 ca B9.size;have x0:=aE.at_ (i:=0) rfl;have x1:=aE.at_ (i:=1) rfl;have x2:=aE.at_ (i:=2) rfl;have y0:=aF.at_ (i:=0) rfl;have y1:=aF.at_ (i:=1) rfl;have y2:=aF.at_ (i:=2) rfl;rw[aN]at x0 x1 x2 y0 y1 y2;clear bK aD dM dO c9 ca B8 B9;go_wp2_with fail;rw[←aN];clear aN aB x0 x1 x2 y0 y1 y2;refine (A0q X1 X2 X3 Y1 Y2 Y3 40 d1 m d2 m d3 40 f1 m f2 m f3 (by decide) (by omega) (by decide) (by omega) wa).mono ?_;rintro x wb ⟨rfl,cb⟩;have aG:=aE.below cb aE.lt;have aH:=aF.below cb aF.lt;have Bb:=C1 Ba cb Ba.size;have x0:=aG.at_ (i:=0) rfl;have x1:=aG.at_ (i:=1) rfl;have x2:=aG.at_ (i:=2) rfl;have y0:=aH.at_ (i:=0) rfl;have y1:=aH.at_ (i:=1) rfl;have y2:=aH.at_ (i:=2) rfl;clear aE aF cb Ba;go_wp2_with fail;refine (A0q Y1 Y2 Y3 X1 X2 X3 40 f1 m f2 m f3 40 d1 m d2 m d3 (by decide) (by omega) (by decide) (by omega) wb).mono ?_;rintro x wc ⟨rfl,cc⟩;have Bc:=C1 Bb cc Bb.size;clear x0 x1 x2 y0 y1 y2;go_wp2_with fail;go_ret;exact ⟨rfl,Bc⟩
 ·clear HR;go_wp2_with fail;rw[←aW];clear aW x0 x1 x2;have aQ:=hR2.up gN;have dQ:m=2*(n / 3)+1:=by have:=HN.out;have:=HM.out;omega
  have fG:s+m≤n:=by have:=HN.out;have:=HM.out;have:=Pg a0 k;rw[←HS.out]at this;omega
  have fH:t+m≤n:=by have:=HN.out;have:=HM.out;have:=Pg b0 k;rw[←HT.out]at this;omega
  have aO:=RtC.of aQ fD.out s m fC.out dQ gK.out fG (U8 a1) (h1 (Co a2)) (X7 _) gL.out;have cO:=RtC.of aQ fE.out t m fF.out dQ gO.out fH (U8 b1) (h1 (Co b2)) (X7 _) gQ.out;obtain⟨o1,fI⟩:∃y,y=Q5 (Eg n) 5 X.body (Jt s m) X.sigs:=⟨_,rfl⟩;obtain⟨o2,fJ⟩:∃y,y=Q5 (Eg n) 5 Y.body (Jt t m) Y.sigs:=⟨_,rfl⟩;rw[←fI]at aO;rw[←fJ]at cO;have aX:=B5t o1 o2 (U8 a1) (U8 b1) (h1 (Co a2)) (h1 (Co b2));have dS:=A8m o1 o2 (U8 a1) (U8 b1) (h1 (Co a2)) (h1 (Co b2));have dT:=A8o o2 (U8 b1) (h1 (Co b2));obtain⟨i1,dU⟩:∃y,y=Th o1 (U8 a1):=⟨_,rfl⟩;obtain⟨l1,aP⟩:∃y,y=Xt o1 (U8 a1) (h1 (Co a2)):=⟨_,rfl⟩;obtain⟨e1,dW⟩:∃y,y=rtE o1 (U8 a1):=⟨_,rfl⟩;obtain⟨i2,cP⟩:∃y,y=Th o2 (U8 b1):=⟨_,rfl⟩;obtain⟨l2,aI⟩:∃y,y=Xt o2 (U8 b1) (h1 (Co b2)):=⟨_,rfl⟩;obtain⟨e2,cQ⟩:∃y,y=rtE o2 (U8 b1):=⟨_,rfl⟩;have aY:l1.length=32:=by rw[aP];exact A2n (X7 _)
  have aR:l2.length=32:=by rw[aI];exact A2n (X7 _)
  rw[←dU,←aP,←dW]at aO;rw[←cP,←aI,←cQ]at cO;rw[←dU,←aP,←dW,←cP,←aI,←cQ]at aX dS;rw[←cP,←aI,←cQ]at dT;have cR:=Lib.hid aO;have bT:=Lib.hid cO;have bU:=Lib.hid aX;have fK:=Lib.hid dS;have gW:=Lib.hid dT;have fL:=Lib.hid aQ;have iS:=aQ.mlt;have aZ:=aQ.apart aL;have bA:=aQ.apart bI;have aZ:some gX≠some mb:=fun e=>by injection e with e;exact aZ e
  have bA:some w5.heap.size≠some mb:=fun e=>by injection e with e;exact bA e
  have dX:=fD.out.s;have dY:=fE.out.s;rw[fC.out]at dX;rw[fF.out]at dY;have gY:=Lib.hid dX;have gZ:=Lib.hid dY;have hH:rtL i1 l1=33:=Y5 aY;have hJ:rtL i2 l2=33:=Y5 aR;clear hR2 aO cO fI fJ aX dS dT dU aP dW cP aI cQ dQ fG fH dX dY;refine (cR.out w6 (World.grownBy.refl w6 _) aQ).mono ?_;rintro x w7 ⟨rfl,g7,dZ⟩;have aB:=(Bk.new w7 37 (Q9 0 (z8 32))).canrt hz;obtain⟨w8,aM⟩:∃z,z=C4 (w7.alloc (Obj.cells (Q9 0 (z8 32)).toArray 37)) ⟨w7.heap.size,0,none⟩ (Q9 i1 l1):=⟨_,rfl⟩;have b8:Below w7.heap.size w7 w8:=by rw[aM];exact C0 ((Below.refl _ _).alloc (Nat.le_refl _) _) (Nat.le_refl _) _
  have fM:Bk w8 w7.heap.size 37 (Q9 i1 l1):=by rw[aM];exact (Bk.new w7 37 (Q9 0 (z8 32))).putrt hz aY
  have G8:=g7.trans (S4 (row:=some mb) b8 (Nat.le_refl _));have fN:=dZ.up b8;have bK:=aL.grown G8 aZ;have aD:=bI.grown G8 bA;have hY:=dZ.mlt;have y0:=aD.at_ (i:=0) rfl;have y1:=aD.at_ (i:=1) rfl;have y2:=aD.at_ (i:=2) rfl;rw[aM]at y0 y1 y2;clear g7 b8 dZ aL bI aQ;go_wp2_with fail;rw[←aM];clear aM aB y0 y1 y2;refine (bT.out w8 G8 fN).mono ?_;rintro x w9 ⟨rfl,g9,eB⟩;have aB:=(Bk.new w9 37 (Q9 0 (z8 32))).canrt hz;obtain⟨wa,aN⟩:∃z,z=C4 (w9.alloc (Obj.cells (Q9 0 (z8 32)).toArray 37)) ⟨w9.heap.size,0,none⟩ (Q9 i2 l2):=⟨_,rfl⟩;have ba:Below w9.heap.size w9 wa:=by rw[aN];exact C0 ((Below.refl _ _).alloc (Nat.le_refl _) _) (Nat.le_refl _) _
  have fO:Bk wa w9.heap.size 37 (Q9 i2 l2):=by rw[aN];exact (Bk.new w9 37 (Q9 0 (z8 32))).putrt hz aR
  have bW:=g9.trans (S4 (row:=some mb) ba (Nat.le_refl _));have Ga:=G8.trans bW;have fP:=eB.up ba;have fQ:=fM.grown bW (fun e=>by injection e with e;omega);have aE:=bK.grown bW aZ;have aF:=aD.grown bW bA;have iA:=eB.mlt;have x0:=aE.at_ (i:=0) rfl;have x1:=aE.at_ (i:=1) rfl;have x2:=aE.at_ (i:=2) rfl;have y0:=aF.at_ (i:=0) rfl;have y1:=aF.at_ (i:=1) rfl;have y2:=aF.at_ (i:=2) rfl;rw[aN]at x0 x1 x2 y0 y1 y2;clear g9 ba eB fM bK aD bW G8 fN;go_wp2_with fail;rw[←aN];clear aN aB x0 x1 x2 y0 y1 y2;have fR:∀W,w6.grownBy W (some mb)→Ns W W.heap.size (.slice X2 m d2) (Ef s m):=fun W hW=>(let ⟨A,c,h1,h2,h3,h4⟩:=gY.out;⟨A,c,h1,h2,h3,(Fp h4 hW fL.out.mp.notCells).more hW.size⟩);have fS:∀W,w6.grownBy W (some mb)→Ns W W.heap.size (.slice Y2 m f2) (Ef t m):=fun W hW=>(let ⟨A,c,h1,h2,h3,h4⟩:=gZ.out;⟨A,c,h1,h2,h3,(Fp h4 hW fL.out.mp.notCells).more hW.size⟩);have cS:=Lib.hid fR;have bX:=Lib.hid fS;clear fR fS;refine (Sy fP X1 X2 X3 Y1 Y2 Y3 40 d1 m d2 m d3 40 f1 m f2 m f3 i1 i2 l1 l2 e1 e2 aY aR (cR.out.later Ga) (bT.out.later Ga) (Ef s m) (Ef t m) (cS.out wa Ga) (bX.out wa Ga) (by omega) (Q1 s m)).mono ?_;rintro x wb ⟨bB,gb,bY⟩;have Gb:=Ga.trans gb;have cT:=fQ.grown gb (fun e=>by injection e with e;omega);have cU:=fO.grown gb (fun e=>by injection e with e;omega);have aG:=aE.grown gb aZ;have aH:=aF.grown gb bA;have x0:=aG.at_ (i:=0) rfl;have x1:=aG.at_ (i:=1) rfl;have x2:=aG.at_ (i:=2) rfl
  have y0:=aH.at_ (i:=0) rfl;have y1:=aH.at_ (i:=1) rfl;have y2:=aH.at_ (i:=2) rfl;clear fQ fO aE aF gb Ga fP;rcases bB with ⟨hbad,rfl⟩ | ⟨hbad,lv,rfl,bL⟩
  ·have aJ:=Lib.hid hbad;clear hbad;go_wp2_with fail;refine (Sy bY Y1 Y2 Y3 X1 X2 X3 40 f1 m f2 m f3 40 d1 m d2 m d3 i2 i1 l2 l1 e2 e1 aR aY (bT.out.later Gb) (cR.out.later Gb) (Ef t m) (Ef s m) (bX.out wb Gb) (cS.out wb Gb) (by omega) (Q1 t m)).mono ?_;rintro x wc ⟨bB,gc,fT⟩;have Gc:=Gb.trans gc;have bM:=cT.grown gc (fun e=>by injection e with e;omega);have bN:=cU.grown gc (fun e=>by injection e with e;omega);have eC:=aG.grown gc aZ;have eD:=aH.grown gc bA;have p0:=Fg bM;have q0:=Fg bN;have pr:=bM.rowrt aY;have qr:=bN.rowrt aR;obtain⟨t1,eE⟩:∃t,(e1 != 0)=t:=⟨_,rfl⟩;obtain⟨t2,eF⟩:∃t,(e2 != 0)=t:=⟨_,rfl⟩;obtain⟨t4,bZ⟩:∃t,(i1 != i2)=t:=⟨_,rfl⟩;obtain⟨t5,cA⟩:∃t,(i1==i2)=t:=⟨_,rfl⟩;obtain⟨t6,eG⟩:∃t,(l1==l2)=t:=⟨_,rfl⟩;have bC:Ce i1 l1 e1 i2 l2 e2=(t1||(t2||(t4||(t5&&t6)))):=by rw[bU.out,eE,eF,bZ,cA,eG]
   rw[aJ.out]at bC;have bO:=Lib.hid bC;have bD:t5 = !t4:=by rw[←cA,←bZ,bne,Bool.not_not]
   subst bD;have aK:∀W,w6.grownBy W (some mb)→Below w.heap.size w W:=fun W hW=>B6.grown hW B6.size (fun k e=>by cases e;exact Nat.le_trans eZ.out zmb);have aC:=Lib.hid aK;clear x0 x1 x2 y0 y1 y2 bC aK gc Gb cT cU aG aH bY;rcases bB with ⟨-,rfl⟩ | ⟨hb2,_⟩
   ·cases t1 with
    | true=>
     go_wp2_with fail;go_ret;exact ⟨rfl,aC.out wc Gc⟩
    | false=>
     cases t2 with
     | true=>
      go_wp2_with fail;go_ret;exact ⟨rfl,aC.out wc Gc⟩
     | false=>
      cases t4 with
      | true=>
       go_wp2_with fail;go_ret;exact ⟨rfl,aC.out wc Gc⟩
      | false=>
       cases t6 with
       | true=>
        go_wp2_with fail;go_ret;exact ⟨rfl,aC.out wc Gc⟩
       | false=>exact absurd bO.out (by decide)
   ·rw[fK.out,aJ.out]at hb2;cases hb2
  ·have aJ:=Lib.hid hbad;obtain⟨Al,cl,rfl,cB,cC,cD⟩:=bL;have bL:Ns wb wb.heap.size (.slice Al (Ck (Ef s m) (Ef t m)).length cl) (Ck (Ef s m) (Ef t m)):=⟨Al,cl,rfl,cB,cC,cD⟩;have eH:=A9k k eY s (by have:=Pg a0 k;rw[←HS.out]at this;omega) t (by have:=Pg b0 k;rw[←HT.out]at this;omega);rw[←HM.out]at eH;obtain⟨L,hL⟩:∃L,L=Ck (Ef s m) (Ef t m):=⟨_,rfl⟩;rw[←hL]at eH bL ⊢;obtain⟨iB,fU,cE,fV⟩:=eH;obtain⟨q,hq⟩:∃q,q=L.length:=⟨_,rfl⟩;have iT:q≤5:=by rw[hq,hL];exact Nat.le_trans (Sf _ _) (by rw[Q1];exact gU)
   rw[←hq]at iB bL ⊢;have iC:=Lib.hid bL;have iD:=Lib.hid fU;have eI:=Lib.hid cE;have iE:=Lib.hid fV;have HQ:=Lib.hid hq;clear hbad cB cC cD bL fU cE fV hq hL;go_wp2_with fail;refine (Sy bY Y1 Y2 Y3 X1 X2 X3 40 f1 m f2 m f3 40 d1 m d2 m d3 i2 i1 l2 l1 e2 e1 aR aY (bT.out.later Gb) (cR.out.later Gb) (Ef t m) (Ef s m) (bX.out wb Gb) (cS.out wb Gb) (by omega) (Q1 t m)).mono ?_;rintro x wc ⟨bB,gc,fT⟩;have Gc:=Gb.trans gc;have bM:=cT.grown gc (fun e=>by injection e with e;omega);have bN:=cU.grown gc (fun e=>by injection e with e;omega);have eC:=aG.grown gc aZ;have eD:=aH.grown gc bA;have p0:=Fg bM;have q0:=Fg bN;have pr:=bM.rowrt aY;have qr:=bN.rowrt aR;obtain⟨t1,eE⟩:∃t,(e1 != 0)=t:=⟨_,rfl⟩;obtain⟨t2,eF⟩:∃t,(e2 != 0)=t:=⟨_,rfl⟩;obtain⟨t4,bZ⟩:∃t,(i1 != i2)=t:=⟨_,rfl⟩;obtain⟨t5,cA⟩:∃t,(i1==i2)=t:=⟨_,rfl⟩;obtain⟨t6,eG⟩:∃t,(l1==l2)=t:=⟨_,rfl⟩;have bC:Ce i1 l1 e1 i2 l2 e2=(t1||(t2||(t4||(t5&&t6)))):=by rw[bU.out,eE,eF,bZ,cA,eG]
   rw[aJ.out]at bC;have bO:=Lib.hid bC;have bD:t5 = !t4:=by rw[←cA,←bZ,bne,Bool.not_not]
   subst bD;have aK:∀W,w6.grownBy W (some mb)→Below w.heap.size w W:=fun W hW=>B6.grown hW B6.size (fun k e=>by cases e;exact Nat.le_trans eZ.out zmb);have aC:=Lib.hid aK;have fW:Ns wc wc.heap.size (.slice Al q cl) L:=(let ⟨A,c,h1,h2,h3,h4⟩:=iC.out;⟨A,c,h1,h2,h3,(Fp h4 gc bY.mp.notCells).more gc.size⟩);have fX:=Lib.hid fW;clear fW x0 x1 x2 y0 y1 y2 bC aK gc Gb cT cU aG aH bY;rcases bB with ⟨hb2,_⟩ | ⟨-,mv,rfl,cF⟩
   ·rw[fK.out,aJ.out]at hb2;cases hb2
   ·rw[iD.out]at cF;obtain⟨Am,cm,rfl,bE,cG,cH⟩:=cF;rw[←HQ.out]at bE ⊢;have cF:Ns wc wc.heap.size (.slice Am q cm) L:=⟨Am,cm,by rw[HQ.out],by rw[←HQ.out];exact bE,cG,cH⟩;have iF:=Lib.hid cF;have eJ:t1=false:=by cases t1 with | true=>exact absurd bO.out (by simp) | false=>rfl
    subst eJ;have eK:t2=false:=by cases t2 with | true=>exact absurd bO.out (by simp) | false=>rfl
    subst eK;have eL:t4=false:=by cases t4 with | true=>exact absurd bO.out (by simp) | false=>rfl
    subst eL;have eM:t6=false:=by cases t6 with | true=>exact absurd bO.out (by simp) | false=>rfl
    subst eM;have iG:decide ((q:Int)≤(k:Int))=false:=decide_eq_false (by omega);have eN:decide (q≤k)=false:=decide_eq_false (by omega);have iH:((q:Int) != (q:Int))=false:=by simp
    clear bE cG cH cF;go_wp2_with fail;clear p0 q0 pr qr bM bN iH iG eN;go_loopw [20,21,23,25,140] (fun _ _ _ _ xv wr=>∃i:Nat,xv=.int .i64 (i:Int)∧i≤q∧Below wc.heap.size wc wr) (fun _ _ _ _ xv _=>q-(intOf xv).toNat)
    case atStart=>exact ⟨0,rfl,by omega,Below.refl _ _⟩
    case round=>
     obtain⟨V,rfl⟩:∃V,V=wr:=⟨wr,rfl⟩;obtain⟨i,rfl,hi,b⟩:=hrel;have cV:=eC.below b eC.lt;have bP:=eD.below b eD.lt;by_cases hlt:i<q
     ·have hd:decide ((i:Int)<(q:Int))=true:=decide_eq_true (by omega);have iI:decide (i<q)=true:=decide_eq_true hlt;obtain⟨x,hx⟩:∃x,L[i]?=some x:=⟨_,List.getElem?_eq_getElem (by rw[←HQ.out];exact hlt)⟩;obtain⟨gl,ol,rfl,fY,fZ⟩:=fX.out.at_ hx;obtain⟨gm,om,rfl,iJ,gA⟩:=iF.out.at_ hx;have fZ:=(b.cell (p:=⟨gl,ol+i,none⟩) fY).trans fZ;have gA:=(b.cell (p:=⟨gm,om+i,none⟩) iJ).trans gA;have gC:=eI.out x (List.mem_of_getElem? hx);have iU:IntKind.i64.wrap ((i:Int)+1)=(i:Int)+1:=IntWalk.i64_in _ (by omega);have iV:(i:Int)<(q:Int):=by omega
      have xs:=cV.at_ (i:=1) rfl;have ys:=bP.at_ (i:=1) rfl;have HX:=Lib.hid hx;have gD:=Lib.hid gC;have GV:=Gc.trans (S4 (row:=some mb) b (Nat.le_refl _));have cI:=cS.out V GV;have cJ:=bX.out V GV;have eO:=Lib.hid cI;have eP:=Lib.hid cJ;clear hx gC cI cJ;go_wp2_with fail;go_loopw [21,23,146] (fun bv _ yv wr=>∃j:Nat,yv=.int .i64 (j:Int)∧bv=.int .i64 ((((Ef s m).take j).count x:Nat):Int)∧j≤m∧V=wr) (fun _ _ yv _=>m-(intOf yv).toNat)
      case atStart=>exact ⟨0,rfl,by simp,by omega,by first | rfl | trivial⟩
      case round=>
       obtain⟨j,rfl,rfl,hj,rfl⟩:=hrel;by_cases hjl:j<m
       ·have eQ:decide ((j:Int)<(m:Int))=true:=decide_eq_true (by omega);have bF:decide (j<m)=true:=decide_eq_true hjl;obtain⟨y,hy⟩:∃y,(Ef s m)[j]?=some y:=⟨_,List.getElem?_eq_getElem (by rw[Q1];exact hjl)⟩;obtain⟨gy,oy,rfl,iK,iL⟩:=eO.out.at_ hy;have iM:IntKind.i64.wrap ((j:Int)+1)=(j:Int)+1:=IntWalk.i64_in _ (by omega);have aS:=Xg x hy;have eR:((Ef s m).take j).count x≤5:=Nat.le_trans List.count_le_length (by rw[List.length_take];omega);obtain⟨cn,aB⟩:∃c,c=((Ef s m).take j).count x:=⟨_,rfl⟩;rw[←aB]at aS eR ⊢;have iN:IntKind.i64.wrap ((cn:Int)+1)=(cn:Int)+1:=IntWalk.i64_in _ (by omega);obtain⟨te,eS⟩:∃t,(y==x)=t:=⟨_,rfl⟩;rw[eS]at aS;have cK:=Lib.hid aS;clear hy aS aB;cases te with
        | true=>
         go_wp2_with fail;go_roundw;case rel=>exact ⟨j+1,by simp,by rw[cK.out];simp,by omega,by first | rfl | trivial⟩
         case measure=>simp[intOf];omega
        | false=>
         go_wp2_with fail;go_roundw;case rel=>exact ⟨j+1,by simp,by rw[cK.out];simp,by omega,by first | rfl | trivial⟩
         case measure=>simp[intOf];omega
       ·have eQ:decide ((j:Int)<(m:Int))=false:=decide_eq_false (by omega);have bF:decide (j<m)=false:=decide_eq_false hjl;have aO:((Ef s m).take j).count x=1:=by rw[List.take_of_length_le (by rw[Q1];omega)];exact gD.out.1
        rw[aO,show ((1:Nat):Int)=1 from rfl];clear aO;go_wp2_with fail;go_loopw [21,25,162] (fun bv _ yv wr=>∃j:Nat,yv=.int .i64 (j:Int)∧bv=.int .i64 ((1+((Ef t m).take j).count x:Nat):Int)∧j≤m∧V=wr) (fun _ _ yv _=>m-(intOf yv).toNat)
        case atStart=>exact ⟨0,rfl,by simp,by omega,by first | rfl | trivial⟩
        case round=>
         obtain⟨j,rfl,rfl,hj,rfl⟩:=hrel;by_cases hjl:j<m
         ·have eQ:decide ((j:Int)<(m:Int))=true:=decide_eq_true (by omega);have bF:decide (j<m)=true:=decide_eq_true hjl;obtain⟨y,hy⟩:∃y,(Ef t m)[j]?=some y:=⟨_,List.getElem?_eq_getElem (by rw[Q1];exact hjl)⟩;obtain⟨gy,oy,rfl,iK,iL⟩:=eP.out.at_ hy;have iM:IntKind.i64.wrap ((j:Int)+1)=(j:Int)+1:=IntWalk.i64_in _ (by omega);have aS:=Xg x hy;have eR:((Ef t m).take j).count x≤5:=Nat.le_trans List.count_le_length (by rw[List.length_take];omega);obtain⟨cn,aB⟩:∃c,c=1+((Ef t m).take j).count x:=⟨_,rfl⟩;rw[←aB];have iN:IntKind.i64.wrap ((cn:Int)+1)=(cn:Int)+1:=IntWalk.i64_in _ (by omega);obtain⟨te,eS⟩:∃t,(y==x)=t:=⟨_,rfl⟩;rw[eS]at aS;have cK:=Lib.hid aS;have gF:=Lib.hid aB;clear hy aS aB eR;cases te with
          | true=>
           go_wp2_with fail;go_roundw;case rel=>exact ⟨j+1,by simp,by rw[cK.out,gF.out];simp;omega,by omega,by first | rfl | trivial⟩
           case measure=>simp[intOf];omega
          | false=>
           go_wp2_with fail;go_roundw;case rel=>exact ⟨j+1,by simp,by rw[cK.out,gF.out];simp,by omega,by first | rfl | trivial⟩
           case measure=>simp[intOf];omega
         ·have eQ:decide ((j:Int)<(m:Int))=false:=decide_eq_false (by omega);have bF:decide (j<m)=false:=decide_eq_false hjl;have aO:1+((Ef t m).take j).count x=2:=by rw[List.take_of_length_le (by rw[Q1];omega),gD.out.2]
          rw[aO,show ((2:Nat):Int)=2 from rfl];have iW:(x != x)=false:=by simp
          clear aO;by_cases hi0:0<i
          ·have iO:decide ((0:Int)<(i:Int))=true:=decide_eq_true (by omega);have eT:decide (0<i)=true:=decide_eq_true hi0;obtain⟨p,hp⟩:∃p,p=i-1:=⟨_,rfl⟩;have iP:p<q:=by omega
           have iX:IntKind.i64.wrap ((i:Int)-1)=(p:Int):=by rw[IntWalk.i64_in _ (by omega)];omega
           obtain⟨x',eU⟩:∃x,L[p]?=some x:=⟨_,List.getElem?_eq_getElem (by rw[←HQ.out];exact iP)⟩;obtain⟨_,_,e,_,cL⟩:=fX.out.at_ eU;cases e;have cL:=(b.cell (p:=⟨gl,ol+p,none⟩) fY).trans cL;have iY:(p:Int)<(q:Int):=by omega
           have iQ:x'<x:=by obtain⟨h1,e1⟩:=List.getElem?_eq_some_iff.1 HX.out;obtain⟨h2,e2⟩:=List.getElem?_eq_some_iff.1 eU;rw[←e1,←e2];exact List.pairwise_iff_getElem.1 iE.out p i h2 h1 (by omega)
           have iZ:decide (x≤x')=false:=decide_eq_false (by omega);clear hp eU iQ;go_wp2_with fail;go_quiet (fail);obtain⟨V2,bG⟩:∃z,z=V.drewN nq:=⟨_,rfl⟩;rw[←bG];have bV:Below wc.heap.size wc V2:=by rw[bG];exact N6 b nq
           clear bG;go_wp2_with fail;go_roundw;case rel=>exact ⟨i+1,by simp,by omega,bV⟩
           case measure=>simp[intOf];omega
          ·have iO:decide ((0:Int)<(i:Int))=false:=decide_eq_false (by omega);have eT:decide (0<i)=false:=decide_eq_false hi0;go_wp2_with fail;go_quiet (fail);obtain⟨V2,bG⟩:∃z,z=V.drewN nq:=⟨_,rfl⟩;rw[←bG];have bV:Below wc.heap.size wc V2:=by rw[bG];exact N6 b nq
           clear bG;go_wp2_with fail;go_roundw;case rel=>exact ⟨i+1,by simp,by omega,bV⟩
           case measure=>simp[intOf];omega
     ·have hd:decide ((i:Int)<(q:Int))=false:=decide_eq_false (by omega);have iI:decide (i<q)=false:=decide_eq_false hlt;have x0:=cV.at_ (i:=0) rfl;have x1:=cV.at_ (i:=1) rfl;have x2:=cV.at_ (i:=2) rfl;have y0:=bP.at_ (i:=0) rfl;have y1:=bP.at_ (i:=1) rfl;have y2:=bP.at_ (i:=2) rfl;have iR:=fT.up b;have GV:=Gc.trans (S4 (row:=some mb) b (Nat.le_refl _));go_wp2_with fail;refine (A0q X1 X2 X3 Y1 Y2 Y3 40 d1 m d2 m d3 40 f1 m f2 m f3 (by decide) (by omega) (by decide) (by omega) V).mono ?_;rintro x V2 ⟨rfl,bb⟩;have eV:=iR.up bb;have eW:=GV.trans (S4 (row:=some mb) bb (Nat.le_refl _));have bH:=bP.below bb bP.lt;have y0:=bH.at_ (i:=0) rfl;have y1:=bH.at_ (i:=1) rfl;have y2:=bH.at_ (i:=2) rfl;go_wp2_with fail;refine (Sy eV none none none Y1 Y2 Y3 0 0 0 0 0 0 40 f1 m f2 m f3 0 i2 (z8 32) l2 0 e2 hz aR (RtC.zero V2) (bT.out.later eW) [] (Ef t m) ⟨none,0,rfl,Nat.le_refl _,by decide,.inl rfl⟩ (bX.out V2 eW) (by decide) rfl).mono ?_;rintro x V3 ⟨bB,g3,jA⟩;rcases bB with ⟨-,rfl⟩ | ⟨hb3,_⟩
      ·go_wp2_with fail;go_ret;exact ⟨rfl,aC.out V3 (eW.trans g3)⟩
      ·rw[gW.out]at hb3;cases hb3
end Go.Proofs.YtdfpoofbgjilgaaGreat
