/- A part of the proof of DirOrder. -/
import Derived.Test.YtlegpkdighoflaaGreatQan
set_option linter.unusedVariables false
set_option linter.unusedSimpArgs false
set_option maxRecDepth 100000
set_option maxHeartbeats 40000000
namespace Go.Proofs.YtlegpkdighoflaaGreat
open Go Go.RowKit Sh
theorem Gn {w w':World} (hb:Below w.heap.size w w') (g:Nat):w.grownBy w' (some g):=⟨hb.os,hb.tape,hb.output,hb.size,fun k hk _=>hb.block k hk⟩
theorem Wq (w:World) (g o:Nat) (vs:List Value):w.grownBy (E0 w ⟨g,o,none⟩ vs) (some g):=
 by
 have h:=C5 (B:=g) (a:=⟨g,o,none⟩) (Below.refl g w) (Nat.le_refl g) vs;exact ⟨h.os,h.tape,h.output,h.size,fun k hk hne=>Cd _ _ _ _ _ (fun e=>hne (by rw[e]))⟩
theorem C7a {P:Program} {Q:Exit→Act→World→Prop} {a:Act} {w:World} {c:Code} (F:Act) (R:World→Prop) (h1:c.wp P (fun e a' w'=>e=.normal∧a'=F∧R w') a w) (h2:∀w',R w'→Q .normal F w'):c.wp P Q a w:=
 B8t (fun a' w'=>a'=F∧R w') h1 (fun _ w' h=>by obtain⟨rfl,h⟩:=h;exact h2 w' h)
def Ad (u v:List UInt64):List UInt64:=C4 u (Z1 v)
def Be (u v:List UInt64):List UInt64:=C4 (Z6 2 (Cz (Ad u v))) (Mw (Ad u v))
def A8m (x w:List UInt64):Bool:=N9 (C4 x x)==N9 w
def Jo (u v:List UInt64):List UInt64:=if A8m (Be u v) (Ad u v) then Be u v else C4 (Be u v) Dy
def A2g (x:List UInt64):List UInt64:=if Wx x then E3 (I3 5) x else x
def Cq (u v:List UInt64):Bool:=!(N9 v==z8 32)&&A8m (Jo u v) (Ad u v)
def X7 (u v:List UInt64):List UInt64:=if Cq u v then A2g (Jo u v) else I3 5
@[simp, go_sem] theorem C2a (u v : List UInt64) : (Ad u v).length = 5 := rfl
@[simp, go_sem] theorem B9g (u v : List UInt64) : (Be u v).length = 5 := rfl
theorem Zg (u v:List UInt64):(Jo u v).length=5:=by unfold Jo;split<;>rfl
theorem U2 (u v:List UInt64):(X7 u v).length=5:=by
 unfold X7 A2g;split
 ·split
  ·rfl
  ·exact Zg u v
 ·rfl
theorem A1d {u v:List UInt64} (h:Cq u v=false):X7 u v=I3 5:=by unfold X7;rw[if_neg (by rw[h];decide)]
theorem Sf {u v:List UInt64} (h:Cq u v=true):X7 u v=A2g (Jo u v):=by unfold X7;rw[if_pos h]
theorem B2g (u v:List UInt64) (hu:u.length=5) (hv:v.length=5) (w:World):Calls Tryz.prog 141 #[H7 u,H7 v] w fun e w'=>e=.returned (.tuple #[H7 (X7 u v),.bool (Cq u v)])∧Below w.heap.size w w':=by
 obtain⟨W0,cG⟩:=H8 ((((w.alloc (Obj.cells (C9 u).toArray 138)).alloc (Obj.cells (C9 v).toArray 138)).alloc (Obj.cells (C9 (I3 5)).toArray 138)));have hL:W0=M2 w [(138,C9 u),(138,C9 v),(138,C9 (I3 5))]:=cG;have B0:=Jc hL;have u0:=Jy hL rfl;have v0:=Gs 1 hL rfl;have cN:=Gs 2 hL rfl;have z0:=Vp 3 hL rfl;clear hL;have aE:=Bk.row64 (n:=5) u0 (hu);have aF:=Bk.row64 (n:=5) v0 (hv);have aB:=Bk.row64 (n:=5) cN (by simp);rw[cG]at aE aF aB;go_enter Tryz.func141,Tryz.ntmps141;go_wp2_with fail;rw[←cG];clear cG;clear aE aF aB;refine (Dj v hv W0).mono ?_;rintro e W1 ⟨rfl,b1⟩;have B1:=J5 B0 b1;have z1:=Nat.le_trans z0 b1.size;have u1:=u0.bl b1;have v1:=v0.bl b1;have bU:=cN.bl b1;clear b1 B0 z0 u0 v0 cN;have aE:=Bk.row64 (n:=5) u1 (hu);have aF:=Bk.row64 (n:=5) v1 (hv);have aB:=Bk.row64 (n:=5) bU (by simp);by_cases hz:N9 v=z8 32;case pos=>
  have cH:(N9 v==z8 32)=true:=by rw[hz];simp
  have eb:Cq u v=false:=by unfold Cq;rw[cH,Bool.not_true,Bool.false_and]
  have EB:=Lib.hid eb;have EL:=Lib.hid (A1d eb);clear eb;have aG:=Fu 5 bU (by simp);go_wp2_with fail;have aA:(I3 5).length=5:=by first | rfl | assumption
  refine bodyPost_ret (v:=.tuple #[H7 (I3 5),.bool false]) ?_ rfl ⟨by rw[EB.out,EL.out],C5 B1 (by show w.heap.size≤w.heap.size+2;omega) _⟩;refine M7 rfl ?_ ?_
  ·exact L6.row (bU.puts (vs:=C9 (I3 5)) (by simp[aA])) rfl _ P4 rfl (by simp[X8,aA])
  ·exact L6.tmp rfl
 have cH:(N9 v==z8 32)=false:=by simpa using hz
 go_wp2_with fail;clear aE aF aB;have HZ:=Lib.hid cH;clear hz cH;refine B8t (fun a' w'=>∃p,a'=(?F1:Nat→Act) p∧Below W1.heap.size W1 w'∧Bk w' p 138 (C9 (Ad u v))∧W1.heap.size≤p) ?h1 ?k1;case h1=>
  have S0:=Eo W1;refine Dm (fun W=>Below W1.heap.size W1 W) ?_;refine Cf (A:=?eA) [0,1] S0 (fun W hW=>?dF) ?eB;case dF=>have cI:=Bk.row64 (n:=5) (u1.bl hW) (hu);have cJ:=Bk.row64 (n:=5) (v1.bl hW) (hv);have bK:=Bk.row64 (n:=5) (bU.bl hW) (by simp);exact Dd
  refine Lm 2 4 (by kernel_rfl) (by rfl) (by rfl) (by rfl) (by rfl) (fun Q' hQ'=>?_) (fun Q' hQ'=>?_)
  ·dsimp only[F8];go_wp2_with fail;refine (A1b v hv W1.drew).mono ?_;rintro e aK ⟨rfl,bb⟩;have T1:=J5 S0 bb;clear bb;go_wp2_with fail;refine hQ' _ _ T1 ?_;clear hQ';refine Lm 3 4 (by kernel_rfl) (by rfl) (by rfl) (by rfl) (by rfl) (fun Q' hQ'=>?_) (fun Q' hQ'=>?_)
   ·dsimp only[F8];go_wp2_with fail;refine (J9 u (Z1 v) hu rfl aK).mono ?_;rintro e aJ ⟨rfl,bb⟩;have T2:=J5 T1 bb;clear bb;go_wp2_with fail;refine hQ' _ _ T2 ?_;clear hQ';refine U0 4 fun Q' hQ'=>?_;dsimp only[F8];go_wp2_with fail;obtain⟨bL,aS⟩:=H8 ((aJ.alloc (Obj.cells (C9 (I3 5)).toArray 138)));have T3:Below W1.heap.size W1 bL:=by rw[aS];exact T2.alloc T2.size _
    have N1:Bk bL aJ.heap.size 138 (C9 (I3 5)):=by rw[aS];exact Bk.new aJ _ _
    obtain⟨p1,aT⟩:=H8 (aJ.heap.size);have bD:W1.heap.size≤p1:=by rw[aT];exact T2.size
    rw[←aS,←aT];rw[←aT]at N1;clear aS aT;refine hQ' _ _ T3 ?_;clear hQ';have bA:=Fu 5 N1 (by simp);have aA:(Ad u v).length=5:=by simp
    refine U0 5 fun Q' hQ'=>?_;dsimp only[F8];go_wp2_with fail;refine hQ' _ _ (C5 T3 bD _) ?_;clear hQ';refine Cu ?_;refine ⟨rfl,p1,?_,C5 T3 bD _,N1.puts (by simp[aA]),bD⟩;rfl
   ·dsimp only[F8];go_wp2_with fail;obtain⟨aJ,aU⟩:=H8 ((aK.alloc (Obj.cells (C9 (I3 5)).toArray 138)));have T2:Below W1.heap.size W1 aJ:=by rw[aU];exact T1.alloc T1.size _
    have N1:Bk aJ aK.heap.size 138 (C9 (I3 5)):=by rw[aU];exact Bk.new aK _ _
    obtain⟨p1,aT⟩:=H8 (aK.heap.size);have bD:W1.heap.size≤p1:=by rw[aT];exact T1.size
    rw[←aU,←aT];rw[←aT]at N1;clear aU aT;refine hQ' _ _ T2 ?_;clear hQ';refine U0 3 fun Q' hQ'=>?_;dsimp only[F8];go_wp2_with fail;refine (J9 u (Z1 v) hu rfl aJ).mono ?_;rintro e bL ⟨rfl,bb⟩;have T3:=J5 T2 bb;have N1:=N1.bl bb;clear bb;go_wp2_with fail;refine hQ' _ _ T3 ?_;clear hQ';have bA:=Fu 5 N1 (by simp);have aA:(Ad u v).length=5:=by simp
    refine U0 5 fun Q' hQ'=>?_;dsimp only[F8];go_wp2_with fail;refine hQ' _ _ (C5 T3 bD _) ?_;clear hQ';refine Cu ?_;refine ⟨rfl,p1,?_,C5 T3 bD _,N1.puts (by simp[aA]),bD⟩;rfl
  ·dsimp only[F8];go_wp2_with fail;obtain⟨aK,aV⟩:=H8 ((W1.alloc (Obj.cells (C9 (I3 5)).toArray 138)).drew);have T1:Below W1.heap.size W1 aK:=by rw[aV];exact (Bi _ _).drew
   have N1:Bk aK W1.heap.size 138 (C9 (I3 5)):=by rw[aV];exact Bk.new W1 _ _
   obtain⟨p1,aT⟩:=H8 (W1.heap.size);have bD:W1.heap.size≤p1:=by rw[aT];exact Nat.le_refl _
   rw[←aV,←aT];rw[←aT]at N1;clear aV aT;refine hQ' _ _ T1 ?_;clear hQ';refine U0 2 fun Q' hQ'=>?_;dsimp only[F8];go_wp2_with fail;refine (A1b v hv aK).mono ?_;rintro e aJ ⟨rfl,bb⟩;have T2:=J5 T1 bb;have N1:=N1.bl bb;clear bb;go_wp2_with fail;refine hQ' _ _ T2 ?_;clear hQ';refine U0 3 fun Q' hQ'=>?_;dsimp only[F8];go_wp2_with fail;refine (J9 u (Z1 v) hu rfl aJ).mono ?_;rintro e bL ⟨rfl,bb⟩;have T3:=J5 T2 bb;have N1:=N1.bl bb;clear bb;go_wp2_with fail;refine hQ' _ _ T3 ?_;clear hQ';have bA:=Fu 5 N1 (by simp);have aA:(Ad u v).length=5:=by simp
   refine U0 5 fun Q' hQ'=>?_;dsimp only[F8];go_wp2_with fail;refine hQ' _ _ (C5 T3 bD _) ?_;clear hQ';refine Cu ?_;refine ⟨rfl,p1,?_,C5 T3 bD _,N1.puts (by simp[aA]),bD⟩;rfl
 rintro _ W2 ⟨eC,rfl,b2,cO,dG⟩;have dH:=Nat.le_trans z1 dG;have B2:=J5 B1 b2;have z2:=Nat.le_trans z1 b2.size;have u2:=u1.bl b2;have v2:=v1.bl b2;have cP:=bU.bl b2;clear b2 B1 z1 u1 v1 bU;have aE:=Bk.row64 (n:=5) u2 (hu);have aF:=Bk.row64 (n:=5) v2 (hv);have aB:=Bk.row64 (n:=5) cP (by simp);have aD:=Bk.row64 (n:=5) cO (by simp);go_wp2_with fail;clear aE aF aB aD;refine (A4i (Ad u v) rfl W2).mono ?_;rintro e W3 ⟨rfl,b3⟩;have B3:=J5 B2 b3;have z3:=Nat.le_trans z2 b3.size;have u3:=u2.bl b3;have v3:=v2.bl b3;have cQ:=cP.bl b3;have cR:=cO.bl b3;clear b3 B2 z2 u2 v2 cP cO;have aE:=Bk.row64 (n:=5) u3 (hu);have aF:=Bk.row64 (n:=5) v3 (hv);have aB:=Bk.row64 (n:=5) cQ (by simp);have aD:=Bk.row64 (n:=5) cR (by simp);obtain⟨W4,bZ⟩:=H8 (E0 (E0 ((W3.alloc (Obj.cells (C9 (I3 5)).toArray 138)).alloc (Obj.cells (C9 (I3 5)).toArray 138)) ⟨W3.heap.size,0,none⟩ (C9 (Cz (Ad u v)))) ⟨W3.heap.size+1,0,none⟩ (C9 (Dv (Ad u v))));have V1:Bk (M2 W3 [(138,C9 (I3 5)),(138,C9 (I3 5))]) W3.heap.size 138 (C9 (I3 5)):=Z5 _ W3 0 _ _ rfl;have V2:Bk (M2 W3 [(138,C9 (I3 5)),(138,C9 (I3 5))]) (W3.heap.size+1) 138 (C9 (I3 5)):=Z5 _ W3 1 _ _ rfl;have V3:=V2.putFar (p:=⟨W3.heap.size,0,none⟩) (by simp) (C9 (Cz (Ad u v)));have n4:Bk W4 W3.heap.size 138 (C9 (Cz (Ad u v))):=by rw[bZ];exact (V1.puts (vs:=C9 (Cz (Ad u v))) (by simp)).putFar (by simp) _
 have m4:Bk W4 (W3.heap.size+1) 138 (C9 (Dv (Ad u v))):=by rw[bZ];exact V3.puts (vs:=C9 (Dv (Ad u v))) (by simp)
 have b4:=Z9 bZ (C5 (Dw [(138,C9 (I3 5)),(138,C9 (I3 5))] W3) (Nat.le_refl _) _) (by omega);have dI:=Fu 5 V1 (by simp);have dJ:=Fu 5 V3 (by simp);obtain⟨p4,cS⟩:=H8 (W3.heap.size);have eD:w.heap.size+3≤p4:=by rw[cS];exact z3
 clear V1 V2 V3;have B4:=J5 B3 b4;have z4:=Nat.le_trans z3 b4.size;have u4:=u3.bl b4;have v4:=v3.bl b4;have cT:=cQ.bl b4;have cK:=cR.bl b4;clear b4 B3 z3 u3 v3 cQ cR;go_wp2_with fail;rw[←bZ];rw[←cS]at n4 m4 ⊢;clear bZ cS dI dJ;have dC:=cK.lt;have dK:=n4.lt;have dL:=m4.lt;refine B8t (fun a' w'=>∃p,a'=(?F2:Nat→Act) p∧Below W4.heap.size W4 w'∧Bk w' p 138 (C9 (Be u v))∧W4.heap.size≤p) ?h2 ?k2;case h2=>
  have S0:=Eo W4;refine Dm (fun W=>Below W4.heap.size W4 W) ?_;refine Cf (A:=?eE) [0,2] S0 (fun W hW=>?dM) ?eF;case dM=>have cI:=Bk.row64 (n:=5) (u4.bl hW) (hu);have cJ:=Bk.row64 (n:=5) (v4.bl hW) (hv);have bK:=Bk.row64 (n:=5) (cT.bl hW) (by simp);have bQ:=Bk.row64 (n:=5) (cK.bl hW) (by simp);have cU:=Bk.row64 (n:=5) (n4.bl hW) (by simp);have cV:=Bk.row64 (n:=5) (m4.bl hW) (by simp);exact Dd
  refine Lm 1 5 (by kernel_rfl) (by rfl) (by rfl) (by rfl) (by rfl) (fun Q' hQ'=>?_) (fun Q' hQ'=>?_)
  ·dsimp only[F8];go_wp2_with fail;refine (Bh (Cz (Ad u v)) rfl 2 (by decide) W4.drew).mono ?_;rintro e aL ⟨rfl,bb⟩;have T1:=J5 S0 bb;clear bb;go_wp2_with fail;refine hQ' _ _ T1 ?_;clear hQ';refine Lm 3 5 (by kernel_rfl) (by rfl) (by rfl) (by rfl) (by rfl) (fun Q' hQ'=>?_) (fun Q' hQ'=>?_)
   ·dsimp only[F8];go_wp2_with fail;refine (Pv (Ad u v) rfl aL).mono ?_;rintro e aI ⟨rfl,bb⟩;have T2:=J5 T1 bb;clear bb;go_wp2_with fail;refine hQ' _ _ T2 ?_;clear hQ';refine Lm 4 5 (by kernel_rfl) (by rfl) (by rfl) (by rfl) (by rfl) (fun Q' hQ'=>?_) (fun Q' hQ'=>?_)
    ·dsimp only[F8];go_wp2_with fail;refine (J9 (Z6 2 (Cz (Ad u v))) (Mw (Ad u v)) rfl rfl aI).mono ?_;rintro e aH ⟨rfl,bb⟩;have T3:=J5 T2 bb;clear bb;go_wp2_with fail;refine hQ' _ _ T3 ?_;clear hQ';refine U0 5 fun Q' hQ'=>?_;dsimp only[F8];go_wp2_with fail;obtain⟨bE,aW⟩:=H8 ((aH.alloc (Obj.cells (C9 (I3 5)).toArray 138)));have T4:Below W4.heap.size W4 bE:=by rw[aW];exact T3.alloc T3.size _
     have N2:Bk bE aH.heap.size 138 (C9 (I3 5)):=by rw[aW];exact Bk.new aH _ _
     obtain⟨p2,aM⟩:=H8 (aH.heap.size);have aQ:W4.heap.size≤p2:=by rw[aM];exact T3.size
     rw[←aW,←aM];rw[←aM]at N2;clear aW aM;refine hQ' _ _ T4 ?_;clear hQ';have bA:=Fu 5 N2 (by simp);have aA:(Be u v).length=5:=by simp
     refine U0 6 fun Q' hQ'=>?_;dsimp only[F8];go_wp2_with fail;refine hQ' _ _ (C5 T4 aQ _) ?_;clear hQ';refine Cu ?_;refine ⟨rfl,p2,?_,C5 T4 aQ _,N2.puts (by simp[aA]),aQ⟩;rfl
    ·dsimp only[F8];go_wp2_with fail;obtain⟨aH,aX⟩:=H8 ((aI.alloc (Obj.cells (C9 (I3 5)).toArray 138)));have T3:Below W4.heap.size W4 aH:=by rw[aX];exact T2.alloc T2.size _
     have N2:Bk aH aI.heap.size 138 (C9 (I3 5)):=by rw[aX];exact Bk.new aI _ _
     obtain⟨p2,aM⟩:=H8 (aI.heap.size);have aQ:W4.heap.size≤p2:=by rw[aM];exact T2.size
     rw[←aX,←aM];rw[←aM]at N2;clear aX aM;refine hQ' _ _ T3 ?_;clear hQ';refine U0 4 fun Q' hQ'=>?_;dsimp only[F8];go_wp2_with fail;refine (J9 (Z6 2 (Cz (Ad u v))) (Mw (Ad u v)) rfl rfl aH).mono ?_;rintro e bE ⟨rfl,bb⟩;have T4:=J5 T3 bb;have N2:=N2.bl bb;clear bb;go_wp2_with fail;refine hQ' _ _ T4 ?_;clear hQ';have bA:=Fu 5 N2 (by simp);have aA:(Be u v).length=5:=by simp
     refine U0 6 fun Q' hQ'=>?_;dsimp only[F8];go_wp2_with fail;refine hQ' _ _ (C5 T4 aQ _) ?_;clear hQ';refine Cu ?_;refine ⟨rfl,p2,?_,C5 T4 aQ _,N2.puts (by simp[aA]),aQ⟩;rfl
   ·dsimp only[F8];go_wp2_with fail;obtain⟨aI,aY⟩:=H8 ((aL.alloc (Obj.cells (C9 (I3 5)).toArray 138)));have T2:Below W4.heap.size W4 aI:=by rw[aY];exact T1.alloc T1.size _
    have N2:Bk aI aL.heap.size 138 (C9 (I3 5)):=by rw[aY];exact Bk.new aL _ _
    obtain⟨p2,aM⟩:=H8 (aL.heap.size);have aQ:W4.heap.size≤p2:=by rw[aM];exact T1.size
    rw[←aY,←aM];rw[←aM]at N2;clear aY aM;refine hQ' _ _ T2 ?_;clear hQ';refine U0 3 fun Q' hQ'=>?_;dsimp only[F8];go_wp2_with fail;refine (Pv (Ad u v) rfl aI).mono ?_;rintro e aH ⟨rfl,bb⟩;have T3:=J5 T2 bb;have N2:=N2.bl bb;clear bb;go_wp2_with fail;refine hQ' _ _ T3 ?_;clear hQ';refine U0 4 fun Q' hQ'=>?_;dsimp only[F8];go_wp2_with fail;refine (J9 (Z6 2 (Cz (Ad u v))) (Mw (Ad u v)) rfl rfl aH).mono ?_;rintro e bE ⟨rfl,bb⟩;have T4:=J5 T3 bb;have N2:=N2.bl bb;clear bb;go_wp2_with fail;refine hQ' _ _ T4 ?_;clear hQ';have bA:=Fu 5 N2 (by simp);have aA:(Be u v).length=5:=by simp
    refine U0 6 fun Q' hQ'=>?_;dsimp only[F8];go_wp2_with fail;refine hQ' _ _ (C5 T4 aQ _) ?_;clear hQ';refine Cu ?_;refine ⟨rfl,p2,?_,C5 T4 aQ _,N2.puts (by simp[aA]),aQ⟩;rfl
  ·dsimp only[F8];go_wp2_with fail;obtain⟨aL,aZ⟩:=H8 ((W4.alloc (Obj.cells (C9 (I3 5)).toArray 138)).drew);have T1:Below W4.heap.size W4 aL:=by rw[aZ];exact (Bi _ _).drew
   have N2:Bk aL W4.heap.size 138 (C9 (I3 5)):=by rw[aZ];exact Bk.new W4 _ _
   obtain⟨p2,aM⟩:=H8 (W4.heap.size);have aQ:W4.heap.size≤p2:=by rw[aM];exact Nat.le_refl _
   rw[←aZ,←aM];rw[←aM]at N2;clear aZ aM;refine hQ' _ _ T1 ?_;clear hQ';refine U0 1 fun Q' hQ'=>?_;dsimp only[F8];go_wp2_with fail;refine (Bh (Cz (Ad u v)) rfl 2 (by decide) aL).mono ?_;rintro e aI ⟨rfl,bb⟩;have T2:=J5 T1 bb;have N2:=N2.bl bb;clear bb;go_wp2_with fail;refine hQ' _ _ T2 ?_;clear hQ';refine U0 3 fun Q' hQ'=>?_;dsimp only[F8];go_wp2_with fail;refine (Pv (Ad u v) rfl aI).mono ?_;rintro e aH ⟨rfl,bb⟩;have T3:=J5 T2 bb;have N2:=N2.bl bb;clear bb;go_wp2_with fail;refine hQ' _ _ T3 ?_;clear hQ';refine U0 4 fun Q' hQ'=>?_;dsimp only[F8];go_wp2_with fail;refine (J9 (Z6 2 (Cz (Ad u v))) (Mw (Ad u v)) rfl rfl aH).mono ?_;rintro e bE ⟨rfl,bb⟩;have T4:=J5 T3 bb;have N2:=N2.bl bb;clear bb;go_wp2_with fail;refine hQ' _ _ T4 ?_;clear hQ';have bA:=Fu 5 N2 (by simp);have aA:(Be u v).length=5:=by simp
   refine U0 6 fun Q' hQ'=>?_;dsimp only[F8];go_wp2_with fail;refine hQ' _ _ (C5 T4 aQ _) ?_;clear hQ';refine Cu ?_;refine ⟨rfl,p2,?_,C5 T4 aQ _,N2.puts (by simp[aA]),aQ⟩;rfl
 rintro _ W5 ⟨aR,rfl,b5,x5,dN⟩;have dO:=Nat.le_trans z4 dN;have B5:=J5 B4 b5;have z5:=Nat.le_trans z4 b5.size;have u5:=u4.bl b5;have v5:=v4.bl b5;have cL:=cT.bl b5;have cM:=cK.bl b5;have n5:=n4.bl b5;have m5:=m4.bl b5;clear b5 B4 z4 u4 v4 cT cK n4 m4;have aE:=Bk.row64 (n:=5) u5 (hu);have aF:=Bk.row64 (n:=5) v5 (hv);have aB:=Bk.row64 (n:=5) cL (by simp);have aD:=Bk.row64 (n:=5) cM (by simp);have aN:=Bk.row64 (n:=5) n5 (by simp);have aO:=Bk.row64 (n:=5) m5 (by simp);have aP:=Bk.row64 (n:=5) x5 (by simp);go_wp2_with fail;clear aE aF aB aD aN aO aP;have bM:Hid ((Be u v).length=5):=Lib.hid rfl;have S0:=Eo W5;refine Dm (fun W=>Below W5.heap.size W5 W) ?_;refine Cf (A:=?eG) [0,1,4] S0 (fun W hW=>?dP) ?eH;case dP=>
  have cI:=Bk.row64 (n:=5) (u5.bl hW) (hu);have cJ:=Bk.row64 (n:=5) (v5.bl hW) (hv);have bK:=Bk.row64 (n:=5) (cL.bl hW) (by simp);have bQ:=Bk.row64 (n:=5) (cM.bl hW) (by simp);have cU:=Bk.row64 (n:=5) (n5.bl hW) (by simp);have cV:=Bk.row64 (n:=5) (m5.bl hW) (by simp);have dD:=Bk.row64 (n:=5) (x5.bl hW) (by simp);exact Dd
 refine U0 2 fun Q' hQ'=>?_;dsimp only[F8];go_wp2_with fail;refine (J9 (Be u v) (Be u v) rfl rfl W5.drew).mono ?_;rintro e cA ⟨rfl,bb⟩;have S1:=J5 S0 bb;clear bb;go_wp2_with fail;refine hQ' _ _ S1 ?_;clear hQ';refine U0 3 fun Q' hQ'=>?_;dsimp only[F8];go_wp2_with fail;refine (Dj (C4 (Be u v) (Be u v)) rfl cA).mono ?_;rintro e cB ⟨rfl,bb⟩;have S2:=J5 S1 bb;clear bb;go_wp2_with fail;refine hQ' _ _ S2 ?_;clear hQ';refine U0 5 fun Q' hQ'=>?_;dsimp only[F8];go_wp2_with fail;refine (Dj (Ad u v) rfl cB).mono ?_;rintro e W6 ⟨rfl,bb⟩;have S3:=J5 S2 bb;clear bb;go_wp2_with fail;refine hQ' _ _ S3 ?_;clear hQ';refine Cf (A:=?eI) [6] S3 (fun W hW=>?dQ) ?eJ;case dQ=>
  simp only[List.append_eq,Vq,Bv,Sb];repeat (go_big_quiet_step (fail))
  refine wpQuiet_nil ?_;rfl
 refine Cu ?_;have b6:Below W5.heap.size W5 W6:=S3;have B6:=J5 B5 b6;have z6:=Nat.le_trans z5 b6.size;have u6:=u5.bl b6;have v6:=v5.bl b6;have bV:=cL.bl b6;have bX:=cM.bl b6;have n6:=n5.bl b6;have m6:=m5.bl b6;have x6:=x5.bl b6;clear b6 B5 z5 u5 v5 cL cM n5 m5 x5;have aE:=Bk.row64 (n:=5) u6 (hu);have aF:=Bk.row64 (n:=5) v6 (hv);have aB:=Bk.row64 (n:=5) bV (by simp);have aD:=Bk.row64 (n:=5) bX (by simp);have aN:=Bk.row64 (n:=5) n6 (by simp);have aO:=Bk.row64 (n:=5) m6 (by simp);have aP:=Bk.row64 (n:=5) x6 (by simp);obtain⟨cc,cW⟩:=H8 ((N9 (C4 (Be u v) (Be u v))==N9 (Ad u v)));rw[←cW];have dE:Hid (A8m (Be u v) (Ad u v)=cc):=Lib.hid cW.symm;clear cW;cases cc;case true=>
  have bN:Hid (Jo u v=Be u v):=Lib.hid (by unfold Jo;rw[dE.out];exact if_pos rfl);have aC:=bM.out;generalize Be u v=x1 at *;go_wp2_with fail;clear aE aF aB aD aN aO aP;have S0:=Eo W6;refine Dm (fun W=>Below W6.heap.size W6 W) ?_;refine Cf (A:=?eK) [0,1,4] S0 (fun W hW=>?dR) ?eL;case dR=>have cI:=Bk.row64 (n:=5) (u6.bl hW) (hu);have cJ:=Bk.row64 (n:=5) (v6.bl hW) (hv);have bK:=Bk.row64 (n:=5) (bV.bl hW) (by simp);have bQ:=Bk.row64 (n:=5) (bX.bl hW) (by simp);have cU:=Bk.row64 (n:=5) (n6.bl hW) (by simp);have cV:=Bk.row64 (n:=5) (m6.bl hW) (by simp);have dD:=Bk.row64 (n:=5) (x6.bl hW) (aC);exact Dd
  refine U0 2 fun Q' hQ'=>?_;dsimp only[F8];go_wp2_with fail;refine (J9 x1 x1 aC aC W6.drew).mono ?_;rintro e cA ⟨rfl,bb⟩;have S1:=J5 S0 bb;clear bb;go_wp2_with fail;refine hQ' _ _ S1 ?_;clear hQ';refine U0 3 fun Q' hQ'=>?_;dsimp only[F8];go_wp2_with fail;refine (Dj (C4 x1 x1) rfl cA).mono ?_;rintro e cB ⟨rfl,bb⟩;have S2:=J5 S1 bb;clear bb;go_wp2_with fail;refine hQ' _ _ S2 ?_;clear hQ';refine U0 5 fun Q' hQ'=>?_;dsimp only[F8];go_wp2_with fail;refine (Dj (Ad u v) rfl cB).mono ?_;rintro e W7 ⟨rfl,bb⟩;have S3:=J5 S2 bb;clear bb;go_wp2_with fail;refine hQ' _ _ S3 ?_;clear hQ';refine Cf (A:=?eM) [6] S3 (fun W hW=>?dS) ?eN;case dS=>
   simp only[List.append_eq,Vq,Bv,Sb];repeat (go_big_quiet_step (fail))
   refine wpQuiet_nil ?_;rfl
  refine Cu ?_;have b7:Below W6.heap.size W6 W7:=S3;have B7:=J5 B6 b7;have z7:=Nat.le_trans z6 b7.size;have u7:=u6.bl b7;have v7:=v6.bl b7;have bI:=bV.bl b7;have bO:=bX.bl b7;have n7:=n6.bl b7;have m7:=m6.bl b7;have x7:=x6.bl b7;clear b7 B6 z6 u6 v6 bV bX n6 m6 x6;have aE:=Bk.row64 (n:=5) u7 (hu);have aF:=Bk.row64 (n:=5) v7 (hv);have aB:=Bk.row64 (n:=5) bI (by simp);have aD:=Bk.row64 (n:=5) bO (by simp);have aN:=Bk.row64 (n:=5) n7 (by simp);have aO:=Bk.row64 (n:=5) m7 (by simp);have aP:=Bk.row64 (n:=5) x7 (aC);obtain⟨cd,bR⟩:=H8 ((N9 (C4 x1 x1)==N9 (Ad u v)));rw[←bR];have eb:Cq u v=cd:=by unfold Cq A8m;rw[HZ.out,bN.out,bR,Bool.not_false,Bool.true_and]
  have EB:=Lib.hid eb;clear bR eb;cases cd;case false=>
   have EL:=Lib.hid (A1d EB.out);have aG:=Fu 5 bI (by simp);go_wp2_with fail;have aA:(I3 5).length=5:=by first | rfl | assumption
   refine bodyPost_ret (v:=.tuple #[H7 (I3 5),.bool false]) ?_ rfl ⟨by rw[EB.out,EL.out],C5 B7 (by show w.heap.size≤w.heap.size+2;omega) _⟩;refine M7 rfl ?_ ?_
   ·exact L6.row (bI.puts (vs:=C9 (I3 5)) (by simp[aA])) rfl _ P4 rfl (by simp[X8,aA])
   ·exact L6.tmp rfl
  case true=>
   go_wp2_with fail;clear aE aF aB aD aN aO aP;refine (Wh x1 aC W7).mono ?_;rintro e W8 ⟨rfl,b8⟩;have B8:=J5 B7 b8;have z8:=Nat.le_trans z7 b8.size;have u8:=u7.bl b8;have v8:=v7.bl b8;have bF:=bI.bl b8;have bS:=bO.bl b8;have n8:=n7.bl b8;have m8:=m7.bl b8;have x8:=x7.bl b8;clear b8 B7 z7 u7 v7 bI bO n7 m7 x7;have aE:=Bk.row64 (n:=5) u8 (hu);have aF:=Bk.row64 (n:=5) v8 (hv);have aB:=Bk.row64 (n:=5) bF (by simp);have aD:=Bk.row64 (n:=5) bS (by simp);have aN:=Bk.row64 (n:=5) n8 (by simp);have aO:=Bk.row64 (n:=5) m8 (by simp);have aP:=Bk.row64 (n:=5) x8 (aC);obtain⟨od,bT⟩:=H8 (Wx x1);rw[←bT];have cC:=Lib.hid bT;clear bT;cases od;case false=>
    have EL:Hid (X7 u v=x1):=Lib.hid (by rw[Sf EB.out,bN.out,A2g,←cC.out];exact if_neg (by decide));have aG:=Fu 5 bF (by simp);go_wp2_with fail;have aA:x1.length=5:=by first | rfl | assumption
    refine bodyPost_ret (v:=.tuple #[H7 x1,.bool true]) ?_ rfl ⟨by rw[EB.out,EL.out],C5 B8 (by show w.heap.size≤w.heap.size+2;omega) _⟩;refine M7 rfl ?_ ?_
    ·exact L6.row (bF.puts (vs:=C9 x1) (by simp[aA])) rfl _ P4 rfl (by simp[X8,aA])
    ·exact L6.tmp rfl
   case true=>
    have EL:Hid (X7 u v=E3 (I3 5) x1):=Lib.hid (by rw[Sf EB.out,bN.out,A2g,←cC.out];exact if_pos rfl);go_wp2_with fail;clear aE aF aB aD aN aO aP;refine (Ea (I3 5) x1 rfl aC W8).mono ?_;rintro e W9 ⟨rfl,b9⟩;have B9:=J5 B8 b9;have z9:=Nat.le_trans z8 b9.size;have u9:=u8.bl b9;have v9:=v8.bl b9;have bP:=bF.bl b9;have cD:=bS.bl b9;have n9:=n8.bl b9;have m9:=m8.bl b9;have x9:=x8.bl b9;clear b9 B8 z8 u8 v8 bF bS n8 m8 x8;have aE:=Bk.row64 (n:=5) u9 (hu);have aF:=Bk.row64 (n:=5) v9 (hv);have aB:=Bk.row64 (n:=5) bP (by simp);have aD:=Bk.row64 (n:=5) cD (by simp);have aN:=Bk.row64 (n:=5) n9 (by simp);have aO:=Bk.row64 (n:=5) m9 (by simp);have aP:=Bk.row64 (n:=5) x9 (aC);clear aE aF aB aD aN aO aP;obtain⟨bY,bB⟩:=H8 (E0 W9 ⟨aR,0,none⟩ (C9 (E3 (I3 5) x1)));have cE:Bk bY (aR) 138 (C9 (E3 (I3 5) x1)):=by rw[bB];exact x9.puts (by simp[aC])
    have bG:Bk bY (w.heap.size+2) 138 (C9 (I3 5)):=by rw[bB];exact bP.putFar (by simp;omega) _
    have cX:Below w.heap.size w bY:=by rw[bB];exact C5 B9 (by simp;omega) _
    have bH:P7 W9 ⟨aR,0,none⟩ 5=true:=x9.can (by simp[aC]);have rx:=Bk.row64 (n:=5) cE rfl;rw[bB]at rx;have aG:=Fu 5 bG (by simp);rw[bB]at aG;go_wp2_with fail;rw[←bB];have aA:(E3 (I3 5) x1).length=5:=by first | rfl | assumption
    refine bodyPost_ret (v:=.tuple #[H7 (E3 (I3 5) x1),.bool true]) ?_ rfl ⟨by rw[EB.out,EL.out],C5 cX (by show w.heap.size≤w.heap.size+2;omega) _⟩;refine M7 rfl ?_ ?_
    ·exact L6.row (bG.puts (vs:=C9 (E3 (I3 5) x1)) (by simp[aA])) rfl _ P4 rfl (by simp[X8,aA])
    ·exact L6.tmp rfl
 case false=>
  have bN:Hid (Jo u v=C4 (Be u v) Dy):=Lib.hid (by unfold Jo;rw[dE.out];exact if_neg (by decide));go_wp2_with fail;clear aE aF aB aD aN aO aP;apply C7a (R:=fun w'=>W6.grownBy w' (some aR)∧Bk w' aR 138 (C9 (C4 (Be u v) Dy)));case h1=>
   have G0:W6.grownBy W6.drew (some aR):=Gn (Below.refl _ _).drew _;have X0:=x6.drew;refine Dm (fun _=>True) ?_;refine Lm 0 1 (by kernel_rfl) (by rfl) (by rfl) (by rfl) (by rfl) (fun Q' hQ'=>?_) (fun Q' hQ'=>?_)
   ·dsimp only[F8];have hx:=Bk.row64 (n:=5) X0 bM.out;go_wp2_with fail;refine hQ' _ _ trivial ?_;clear hQ' hx;refine U0 1 fun Q' hQ'=>?_;dsimp only[F8];go_wp2_with fail;refine (Ru W6.drew).mono ?_;rintro e v1 ⟨rfl,b1⟩;have X1:=X0.bl b1;have G1:=G0.trans (Gn b1 aR);go_wp2_with fail;refine hQ' _ _ trivial ?_;clear hQ';refine U0 2 fun Q' hQ'=>?_;dsimp only[F8];go_wp2_with fail;refine (J9 (Be u v) Dy bM.out rfl v1).mono ?_;rintro e v2 ⟨rfl,b2⟩;have X2:=X1.bl b2;have G2:=G1.trans (Gn b2 aR);go_wp2_with fail;refine hQ' _ _ trivial ?_;clear hQ';have bH:P7 v2 ⟨aR,0,none⟩ 5=true:=X2.can (by rw[Cw,bM.out];decide);refine U0 3 fun Q' hQ'=>?_;dsimp only[F8];go_wp2_with fail;refine hQ' _ _ trivial ?_;clear hQ';refine Cu ?_;exact ⟨rfl,rfl,G2.trans (Wq _ _ _ _),X2.puts (by rw[Cw,Cw,bM.out];rfl)⟩
   ·dsimp only[F8];go_wp2_with fail;refine (Ru W6.drew).mono ?_;rintro e v1 ⟨rfl,b1⟩;have X1:=X0.bl b1;have G1:=G0.trans (Gn b1 aR);go_wp2_with fail;refine hQ' _ _ trivial ?_;clear hQ';refine U0 0 fun Q' hQ'=>?_;dsimp only[F8];have hx:=Bk.row64 (n:=5) X1 bM.out;go_wp2_with fail;refine hQ' _ _ trivial ?_;clear hQ' hx;refine U0 2 fun Q' hQ'=>?_;dsimp only[F8];go_wp2_with fail;refine (J9 (Be u v) Dy bM.out rfl v1).mono ?_;rintro e v2 ⟨rfl,b2⟩;have X2:=X1.bl b2;have G2:=G1.trans (Gn b2 aR);go_wp2_with fail;refine hQ' _ _ trivial ?_;clear hQ';have bH:P7 v2 ⟨aR,0,none⟩ 5=true:=X2.can (by rw[Cw,bM.out];decide);refine U0 3 fun Q' hQ'=>?_;dsimp only[F8];go_wp2_with fail;refine hQ' _ _ trivial ?_;clear hQ';refine Cu ?_;exact ⟨rfl,rfl,G2.trans (Wq _ _ _ _),X2.puts (by rw[Cw,Cw,bM.out];rfl)⟩
  rintro W7 ⟨G7,x7⟩;have B7:=B6.grown G7 B6.size (fun k hk=>by injection hk with hk;omega);have z7:=Nat.le_trans z6 G7.size;have u7:=u6.grown G7 (fun e=>by injection e with e;omega);have v7:=v6.grown G7 (fun e=>by injection e with e;omega);have bI:=bV.grown G7 (fun e=>by injection e with e;omega);have bO:=bX.grown G7 (fun e=>by injection e with e;omega);have n7:=n6.grown G7 (fun e=>by injection e with e;omega);have m7:=m6.grown G7 (fun e=>by injection e with e;omega);clear G7 B6 z6 u6 v6 bV bX n6 m6 x6;obtain⟨x1,cY⟩:=H8 (C4 (Be u v) Dy);have aC:x1.length=5:=by rw[cY];rfl
  rw[←cY]at x7 bN;clear cY;have aE:=Bk.row64 (n:=5) u7 (hu);have aF:=Bk.row64 (n:=5) v7 (hv);have aB:=Bk.row64 (n:=5) bI (by simp);have aD:=Bk.row64 (n:=5) bO (by simp);have aN:=Bk.row64 (n:=5) n7 (by simp);have aO:=Bk.row64 (n:=5) m7 (by simp);have aP:=Bk.row64 (n:=5) x7 (aC);go_wp2_with fail;clear aE aF aB aD aN aO aP;have S0:=Eo W7;refine Dm (fun W=>Below W7.heap.size W7 W) ?_;refine Cf (A:=?eO) [0,1,4] S0 (fun W hW=>?dT) ?eP;case dT=>
   have cI:=Bk.row64 (n:=5) (u7.bl hW) (hu);have cJ:=Bk.row64 (n:=5) (v7.bl hW) (hv);have bK:=Bk.row64 (n:=5) (bI.bl hW) (by simp);have bQ:=Bk.row64 (n:=5) (bO.bl hW) (by simp);have cU:=Bk.row64 (n:=5) (n7.bl hW) (by simp);have cV:=Bk.row64 (n:=5) (m7.bl hW) (by simp);have dD:=Bk.row64 (n:=5) (x7.bl hW) (aC);exact Dd
  refine U0 2 fun Q' hQ'=>?_;dsimp only[F8];go_wp2_with fail;refine (J9 x1 x1 aC aC W7.drew).mono ?_;rintro e cA ⟨rfl,bb⟩;have S1:=J5 S0 bb;clear bb;go_wp2_with fail;refine hQ' _ _ S1 ?_;clear hQ';refine U0 3 fun Q' hQ'=>?_;dsimp only[F8];go_wp2_with fail;refine (Dj (C4 x1 x1) rfl cA).mono ?_;rintro e cB ⟨rfl,bb⟩;have S2:=J5 S1 bb;clear bb;go_wp2_with fail;refine hQ' _ _ S2 ?_;clear hQ';refine U0 5 fun Q' hQ'=>?_;dsimp only[F8];go_wp2_with fail;refine (Dj (Ad u v) rfl cB).mono ?_;rintro e W8 ⟨rfl,bb⟩;have S3:=J5 S2 bb;clear bb;go_wp2_with fail;refine hQ' _ _ S3 ?_;clear hQ';refine Cf (A:=?eQ) [6] S3 (fun W hW=>?dU) ?eR;case dU=>
   simp only[List.append_eq,Vq,Bv,Sb];repeat (go_big_quiet_step (fail))
   refine wpQuiet_nil ?_;rfl
  refine Cu ?_;have b8:Below W7.heap.size W7 W8:=S3;have B8:=J5 B7 b8;have z8:=Nat.le_trans z7 b8.size;have u8:=u7.bl b8;have v8:=v7.bl b8;have bF:=bI.bl b8;have bS:=bO.bl b8;have n8:=n7.bl b8;have m8:=m7.bl b8;have x8:=x7.bl b8;clear b8 B7 z7 u7 v7 bI bO n7 m7 x7;have aE:=Bk.row64 (n:=5) u8 (hu);have aF:=Bk.row64 (n:=5) v8 (hv);have aB:=Bk.row64 (n:=5) bF (by simp);have aD:=Bk.row64 (n:=5) bS (by simp);have aN:=Bk.row64 (n:=5) n8 (by simp);have aO:=Bk.row64 (n:=5) m8 (by simp);have aP:=Bk.row64 (n:=5) x8 (aC);obtain⟨cd,bR⟩:=H8 ((N9 (C4 x1 x1)==N9 (Ad u v)));rw[←bR];have eb:Cq u v=cd:=by unfold Cq A8m;rw[HZ.out,bN.out,bR,Bool.not_false,Bool.true_and]
  have EB:=Lib.hid eb;clear bR eb;cases cd;case false=>
   have EL:=Lib.hid (A1d EB.out);have aG:=Fu 5 bF (by simp);go_wp2_with fail;have aA:(I3 5).length=5:=by first | rfl | assumption
   refine bodyPost_ret (v:=.tuple #[H7 (I3 5),.bool false]) ?_ rfl ⟨by rw[EB.out,EL.out],C5 B8 (by show w.heap.size≤w.heap.size+2;omega) _⟩;refine M7 rfl ?_ ?_
   ·exact L6.row (bF.puts (vs:=C9 (I3 5)) (by simp[aA])) rfl _ P4 rfl (by simp[X8,aA])
   ·exact L6.tmp rfl
  case true=>
   go_wp2_with fail;clear aE aF aB aD aN aO aP;refine (Wh x1 aC W8).mono ?_;rintro e W9 ⟨rfl,b9⟩;have B9:=J5 B8 b9;have z9:=Nat.le_trans z8 b9.size;have u9:=u8.bl b9;have v9:=v8.bl b9;have bP:=bF.bl b9;have cD:=bS.bl b9;have n9:=n8.bl b9;have m9:=m8.bl b9;have x9:=x8.bl b9;clear b9 B8 z8 u8 v8 bF bS n8 m8 x8;have aE:=Bk.row64 (n:=5) u9 (hu);have aF:=Bk.row64 (n:=5) v9 (hv);have aB:=Bk.row64 (n:=5) bP (by simp);have aD:=Bk.row64 (n:=5) cD (by simp);have aN:=Bk.row64 (n:=5) n9 (by simp);have aO:=Bk.row64 (n:=5) m9 (by simp);have aP:=Bk.row64 (n:=5) x9 (aC);obtain⟨od,bT⟩:=H8 (Wx x1);rw[←bT];have cC:=Lib.hid bT;clear bT;cases od;case false=>
    have EL:Hid (X7 u v=x1):=Lib.hid (by rw[Sf EB.out,bN.out,A2g,←cC.out];exact if_neg (by decide));have aG:=Fu 5 bP (by simp);go_wp2_with fail;have aA:x1.length=5:=by first | rfl | assumption
    refine bodyPost_ret (v:=.tuple #[H7 x1,.bool true]) ?_ rfl ⟨by rw[EB.out,EL.out],C5 B9 (by show w.heap.size≤w.heap.size+2;omega) _⟩;refine M7 rfl ?_ ?_
    ·exact L6.row (bP.puts (vs:=C9 x1) (by simp[aA])) rfl _ P4 rfl (by simp[X8,aA])
    ·exact L6.tmp rfl
   case true=>
    have EL:Hid (X7 u v=E3 (I3 5) x1):=Lib.hid (by rw[Sf EB.out,bN.out,A2g,←cC.out];exact if_pos rfl);go_wp2_with fail;clear aE aF aB aD aN aO aP;refine (Ea (I3 5) x1 rfl aC W9).mono ?_;rintro e bY ⟨rfl,bJ⟩;have cX:=J5 B9 bJ;have eS:=Nat.le_trans z9 bJ.size;have dV:=u9.bl bJ;have dW:=v9.bl bJ;have bG:=bP.bl bJ;have cZ:=cD.bl bJ;have n10:=n9.bl bJ;have dX:=m9.bl bJ;have cE:=x9.bl bJ;clear bJ B9 z9 u9 v9 bP cD n9 m9 x9;have aE:=Bk.row64 (n:=5) dV (hu);have aF:=Bk.row64 (n:=5) dW (hv);have aB:=Bk.row64 (n:=5) bG (by simp);have aD:=Bk.row64 (n:=5) cZ (by simp);have aN:=Bk.row64 (n:=5) n10 (by simp);have aO:=Bk.row64 (n:=5) dX (by simp);have aP:=Bk.row64 (n:=5) cE (aC);clear aE aF aB aD aN aO aP;obtain⟨dB,bC⟩:=H8 (E0 bY ⟨aR,0,none⟩ (C9 (E3 (I3 5) x1)));have dY:Bk dB (aR) 138 (C9 (E3 (I3 5) x1)):=by rw[bC];exact cE.puts (by simp[aC])
    have cF:Bk dB (w.heap.size+2) 138 (C9 (I3 5)):=by rw[bC];exact bG.putFar (by simp;omega) _
    have dZ:Below w.heap.size w dB:=by rw[bC];exact C5 cX (by simp;omega) _
    have bH:P7 bY ⟨aR,0,none⟩ 5=true:=cE.can (by simp[aC]);have rx:=Bk.row64 (n:=5) dY rfl;rw[bC]at rx;have aG:=Fu 5 cF (by simp);rw[bC]at aG;go_wp2_with fail;rw[←bC];have aA:(E3 (I3 5) x1).length=5:=by first | rfl | assumption
    refine bodyPost_ret (v:=.tuple #[H7 (E3 (I3 5) x1),.bool true]) ?_ rfl ⟨by rw[EB.out,EL.out],C5 dZ (by show w.heap.size≤w.heap.size+2;omega) _⟩;refine M7 rfl ?_ ?_
    ·exact L6.row (cF.puts (vs:=C9 (E3 (I3 5) x1)) (by simp[aA])) rfl _ P4 rfl (by simp[X8,aA])
    ·exact L6.tmp rfl
end Go.Proofs.YtlegpkdighoflaaGreat
