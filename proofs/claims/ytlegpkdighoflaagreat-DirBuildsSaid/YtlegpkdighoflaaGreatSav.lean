/- A part of the proof of DirBuilds. -/
import Derived.Test.YtlegpkdighoflaaGreatSau
set_option linter.unusedVariables false
set_option linter.unusedSimpArgs false
set_option maxRecDepth 100000
set_option maxHeartbeats 40000000
namespace Go.Proofs.YtlegpkdighoflaaGreat
open Go Go.RowKit Sh
def Cc (l:List UInt8) (o:Nat) (m:List UInt8):List UInt8:=l.take o++m++l.drop (o+m.length)
theorem X1 {l m:List UInt8} {o n:Nat} (hl:l.length=n) (h:o+m.length≤n):(Cc l o m).length=n:=by unfold Cc;simp;omega
theorem Bk.putB8 {w:World} {g:Nat} {t:TypeId} {l m:List UInt8} {o:Nat} (K:Bk w g t (c8 l)) (h:o+m.length≤l.length):Bk (C9 w ⟨g,o,none⟩ (c8 m)) g t (c8 (Cc l o m)):=by
 have:=K.put (o:=o) (vs:=c8 m) (by simpa using h);simpa [Cc,c8] using this
theorem We {W:World} {gd gs od os nd cd ns cs:Nat} {td ts:TypeId} {ld ls m:List UInt8} (K:Bk W gd td (c8 ld)) (Ks:Bk W gs ts (c8 ls)) (hm:(ls.drop os).take ns=m) (hml:m.length=ns) (h1:od+ns≤ld.length) (h2:ns≤nd) :
 ∀ty,(Builtin.copy_ #[45,45] ty #[.slice (some ⟨gd,od,none⟩) nd cd,.slice (some ⟨gs,os,none⟩) ns cs]).run Tryz.prog W=.ok (goInt ns) (C9 W ⟨gd,od,none⟩ (c8 m)):=fun ty=>by
 have:=run_copy_cells (P:=Tryz.prog) W 45 45 ty 5 gd od nd cd ⟨gs,os,none⟩ ns cs (c8 m) Tryz.underlying45 (by kernel_rfl) (by rw[H6,hml];exact (Nat.min_eq_left h2).symm)
  (fun j v hj=>by
   rw[U0];refine Ks.at_ ?_;have h3:j<m.length:=by have:=(List.getElem?_eq_some_iff.1 hj).1;simpa using this
   rw[←hj,←hm];simp only[c8,List.map_take,List.map_drop,List.getElem?_take,List.getElem?_drop];rw[if_pos (by omega)])
  (fun j hj=>by rw[K.cell];simp at hj;simp;omega) (fun j hj=>K.frozen _) (by intro u hu;obtain⟨y,_,rfl⟩:=List.mem_map.1 hu;rfl)
 rw[H6,hml]at this;exact this
def L3 (a:List UInt8):List UInt64:=Ou (Cc (z8 64) 0 a)
theorem A0c (a:List UInt8):(L3 a).length=4:=Ep _
theorem B4y (a:List UInt8) (ha:a.length=32) (w:World):Calls Tryz.prog 110 #[A8 a] w fun e w'=>e=.returned (J7 (L3 a))∧Below w.heap.size w w':=by
 obtain⟨W0,aW⟩:∃z,z=((w.alloc (Obj.cells (c8 a).toArray 23)).alloc (Obj.cells (C7 (J8 4)).toArray 184)):=⟨_,rfl⟩;have hL:W0=Q5 w [(23,(c8 a)),(184,(C7 (J8 4)))]:=aW;have B0:Below w.heap.size w W0:=by rw[hL];exact J9 _ _
 have aE:Bk W0 (w.heap.size) 23 (c8 a):=by rw[hL];exact F9 _ w 0 _ _ rfl
 have aF:Bk W0 (w.heap.size+1) 184 (C7 (J8 4)):=by rw[hL];exact F9 _ w 1 _ _ rfl
 have z0:w.heap.size+2≤W0.heap.size:=by rw[hL,H9];simp
 have bC:W0.heap.size=w.heap.size+2:=by rw[hL,H9];rfl
 clear hL;obtain⟨V1,aG⟩:∃z,z=W0.alloc (Obj.cells (c8 (z8 64)).toArray 61):=⟨_,rfl⟩;have aV:W0.heap.size=w.heap.size+2:=bC;have aA:Bk V1 (w.heap.size+2) 61 (c8 (z8 64)):=by rw[aG,←aV];exact Bk.new W0 _ _
 have aB:Bk V1 (w.heap.size) 23 (c8 a):=by rw[aG];exact aE.alloc _
 have aC:Bk V1 (w.heap.size+1) 184 (C7 (J8 4)):=by rw[aG];exact aF.alloc _
 have aX:Below w.heap.size w V1:=by rw[aG];exact B0.alloc B0.size _
 have aO:w.heap.size<w.heap.size+2:=by rw[←aV];exact aE.lt
 have aP:w.heap.size+1<w.heap.size+2:=by rw[←aV];exact aF.lt
 have bD:w.heap.size+2≤w.heap.size+2:=by omega
 clear aV;go_enter Tryz.func110,Tryz.ntmps110;go_wp2_with fail;rw[←aW,←aG];have bE:w.heap.size+2≤V1.heap.size:=by have hz:=z0;rw[aG];first | (simp;omega) | (simp[World.setCell];omega)
 clear aW aG bC aE aF B0 z0;have S2:Below V1.heap.size V1 V1.drew:=(Below.refl _ _).drew;refine F2 (fun W=>True) (by kernel_rfl) ?_;refine C6 (A:=?bK) [0,1] (by kernel_rfl) (by kernel_rfl) rfl (by kernel_rfl) (by kernel_rfl) trivial (h:=fun W hW=>?bH) (hr:=?bL);case bH=>
  simp only[pick,List.getElem?_cons_zero,List.getElem?_cons_succ];repeat (go_big_quiet_step (fail))
  refine wpQuiet_nil ?_;rfl
 obtain⟨W3,aY⟩:∃z,z=V1.drew:=⟨_,rfl⟩;rw[←aY];rw[←aY]at S2;have B3:=C0 aX S2 aX.size;have z3:=Nat.le_trans bE S2.size;have aH:=aB.below S2 aB.lt;have aQ:=aC.below S2 aC.lt;have aI:=aA.below S2 aA.lt;clear aY S2 aX bE aB aC aA;obtain⟨W4,aJ⟩:∃z,z=C9 W3 ⟨w.heap.size+2,0,none⟩ (c8 a):=⟨_,rfl⟩;have aD:Bk W4 (w.heap.size+2) 61 (c8 (Cc (z8 64) 0 a)):=by rw[aJ];exact Bk.putB8 (aI) (by have h1:=(show (z8 64).length=64 from by simp);have h2:=ha;omega)
 have aK:Bk W4 (w.heap.size) 23 (c8 a):=by rw[aJ];exact aH.putFar (p:=⟨w.heap.size+2,0,none⟩) (by show w.heap.size≠w.heap.size+2;omega) _
 have aL:Bk W4 (w.heap.size+1) 184 (C7 (J8 4)):=by rw[aJ];exact aQ.putFar (p:=⟨w.heap.size+2,0,none⟩) (by show w.heap.size+1≠w.heap.size+2;omega) _
 have B4:Below w.heap.size w W4:=by rw[aJ];exact C1 B3 (by show w.heap.size≤w.heap.size+2;omega) _
 have bI:=We (nd:=64) (cd:=64) (cs:=32) (od:=0) (os:=0) (aI) (aH) (show ((a.drop 0).take 32)=a from by have h1:=ha;rw[List.drop_zero,List.take_of_length_le (by omega)]) ha (by have h1:=(show (z8 64).length=64 from by simp);omega) (by decide);refine C4 2 (by kernel_rfl) (by rfl) (by rfl) (fun Q' hQ'=>?_);dsimp only[E4];go_wp2_with fail;rw[←aJ];refine hQ' _ _ trivial ?_;clear hQ' bI;have z4:w.heap.size+2≤W4.heap.size:=by have hz:=z3;rw[aJ];simp;omega
 clear aJ B3 z3 aH aQ aI;refine I9 (by kernel_rfl) ?_;have f5:=Bk.row8 (n:=64) (aD) ((show (Cc (z8 64) 0 a).length=64 from X1 (show (z8 64).length=64 from by simp) (by have h2:=ha;omega)));go_wp2_with fail;clear f5;refine (A4f (Cc (z8 64) 0 a) (show (Cc (z8 64) 0 a).length=64 from X1 (show (z8 64).length=64 from by simp) (by have h2:=ha;omega)) W4).mono ?_;rintro e W6 ⟨rfl,b7⟩;have B6:=C0 B4 b7 B4.size;have z6:=Nat.le_trans z4 b7.size;have aR:=aK.below b7 aK.lt;have aM:=aL.below b7 aL.lt;have aS:=aD.below b7 aD.lt;clear b7 B4 z4 aK aL aD;obtain⟨V8,aN⟩:∃z,z=C9 W6 ⟨w.heap.size+1,0,none⟩ (C7 (Ou (Cc (z8 64) 0 a))):=⟨_,rfl⟩;have aT:Bk V8 (w.heap.size+1) 184 (C7 (Ou (Cc (z8 64) 0 a))):=by rw[aN];exact Bk.put64 (aM) ((show (J8 4).length=4 from by simp)) ((Ep (Cc (z8 64) 0 a)))
 have bF:Bk V8 (w.heap.size) 23 (c8 a):=by rw[aN];exact aR.putFar (p:=⟨w.heap.size+1,0,none⟩) (by show w.heap.size≠w.heap.size+1;omega) _
 have bG:Bk V8 (w.heap.size+2) 61 (c8 (Cc (z8 64) 0 a)):=by rw[aN];exact aS.putFar (p:=⟨w.heap.size+1,0,none⟩) (by show w.heap.size+2≠w.heap.size+1;omega) _
 have bJ:Below w.heap.size w V8:=by rw[aN];exact C1 B6 (by show w.heap.size≤w.heap.size+1;omega) _
 have aU:E8 W6 ⟨w.heap.size+1,0,none⟩ 4=true:=Bk.can64 (aM) ((show (J8 4).length=4 from by simp));have aZ:(Ou (Cc (z8 64) 0 a)).length=4:=(Ep (Cc (z8 64) 0 a));go_wp2_with fail;rw[←aN];clear aU aZ;have bM:w.heap.size+2≤V8.heap.size:=by have hz:=z6;rw[aN];first | (simp;omega) | (simp[World.setCell];omega)
 clear aN aR aM aS B6 z6;have bB:(Ou (Cc (z8 64) 0 a)).length=4:=(Ep (Cc (z8 64) 0 a));refine bodyPost_ret (E9 rfl _ _ _ _ _ _ rfl aT Dt rfl (by simp[He,bB])) rfl ⟨rfl,bJ⟩
def Ct (ls:List (List UInt8)):List UInt8:=Xb ls.flatten
@[simp, go_sem] theorem Bx (ls : List (List UInt8)) : (Ct ls).length = 64 := Vo _
def E3 (ls:List (List UInt8)):List UInt64:=Yw ls.flatten
@[simp, go_sem] theorem X0 (ls : List (List UInt8)) : (E3 ls).length = 4 := A0j _
theorem D3f (v:Value) (ls:List (List UInt8)) (w:World) (hp:L6 w w.heap.size v ls) (hsz:ls.flatten.length≤1099511627776) :
 Calls Tryz.prog 91 #[v] w fun e w'=>e=.returned (A8 (Ct ls))∧Below w.heap.size w w':=A0q v ls w hp hsz
theorem Ql (vp:Value) (ls:List (List UInt8)) (w:World) (hp:L6 w w.heap.size vp ls) (hsz:ls.flatten.length≤1099511627776):Calls Tryz.prog 105 #[vp] w fun e w'=>e=.returned (J7 (E3 ls))∧Below w.heap.size w w':=B4h vp ls w hp hsz
def Lw (seed:List UInt8):List UInt8:=(D9 (Ct [seed]) 0).set 0 (g8 (D9 (Ct [seed]) 0) 0 &&& 248)
def H8 (seed:List UInt8):List UInt8:=(Lw seed).set 31 (g8 (Lw seed) 31 &&& 127 ||| 64)
theorem Mp (seed:List UInt8):(Lw seed).length=32:=by unfold Lw;rw[List.length_set];exact Ht (Bx _) 0 (by decide)
@[simp, go_sem] theorem Y8 (seed : List UInt8) : (H8 seed).length = 32 := by unfold H8; rw [List.length_set]; exact Mp seed
theorem Zy (seed:List UInt8) (hs:seed.length=32) (w:World):Calls Tryz.prog 64 #[A8 seed] w fun e w'=>∃g,e=.returned (.tuple #[A8 (H8 seed),.slice (some ⟨g,32,none⟩) 32 32])∧Bk w' g 61 (c8 (Ct [seed]))∧w.heap.size≤g∧Below w.heap.size w w':=by
 obtain⟨W0,cV⟩:∃z,z=((w.alloc (Obj.cells (c8 seed).toArray 23)).alloc (Obj.cells (c8 (z8 32)).toArray 23)):=⟨_,rfl⟩;have hL:W0=Q5 w [(23,(c8 seed)),(23,(c8 (z8 32)))]:=cV;have B0:Below w.heap.size w W0:=by rw[hL];exact J9 _ _
 have cB:Bk W0 (w.heap.size) 23 (c8 seed):=by rw[hL];exact F9 _ w 0 _ _ rfl
 have cN:Bk W0 (w.heap.size+1) 23 (c8 (z8 32)):=by rw[hL];exact F9 _ w 1 _ _ rfl
 have z0:w.heap.size+2≤W0.heap.size:=by rw[hL,H9];simp
 have dF:W0.heap.size=w.heap.size+2:=by rw[hL,H9];rfl
 clear hL;obtain⟨V1,cC⟩:∃z,z=W0.alloc (Obj.cells #[(.slice (some ⟨w.heap.size,0,none⟩) 32 32)] 45):=⟨_,rfl⟩;have dG:W0.heap.size=w.heap.size+2:=dF;have cW:L6 V1 V1.heap.size (.slice (some ⟨w.heap.size+2,0,none⟩) 1 1) [seed]:=by rw[cC,←dG];exact (L6.one W0 _ _ seed (Bk.byAll (cB) hs (by decide))).more (by simp)
 have aO:Bk V1 (w.heap.size) 23 (c8 seed):=by rw[cC];exact cB.alloc _
 have aP:Bk V1 (w.heap.size+1) 23 (c8 (z8 32)):=by rw[cC];exact cN.alloc _
 have cX:Below w.heap.size w V1:=by rw[cC];exact B0.alloc B0.size _
 clear dG;have cW:=Lib.hid cW;go_enter Tryz.func64,Tryz.ntmps64;go_wp2_with fail;rw[←cV,←cC];have dI:w.heap.size+2≤V1.heap.size:=by have hz:=z0;rw[cC];first | (simp;omega) | (simp[World.setCell];omega)
 clear cV cC dF cB cN B0 z0;refine (D3f _ [seed] V1 cW.out (by simp;omega)).mono ?_;rintro e W2 ⟨rfl,b3⟩;have B2:=C0 cX b3 cX.size;have z2:=Nat.le_trans dI b3.size;have cD:=aO.below b3 aO.lt;have cE:=aP.below b3 aP.lt;clear b3 cX dI aO aP;obtain⟨V4,aE⟩:∃z,z=W2.alloc (Obj.cells (c8 (z8 64)).toArray 61):=⟨_,rfl⟩;have cO:W2.heap.size=W2.heap.size:=rfl;have aQ:Bk V4 (W2.heap.size) 61 (c8 (z8 64)):=by rw[aE,←cO];exact Bk.new W2 _ _
 have bF:Bk V4 (w.heap.size) 23 (c8 seed):=by rw[aE];exact cD.alloc _
 have bG:Bk V4 (w.heap.size+1) 23 (c8 (z8 32)):=by rw[aE];exact cE.alloc _
 have dJ:Below w.heap.size w V4:=by rw[aE];exact B2.alloc B2.size _
 have aR:w.heap.size<W2.heap.size:=by rw[←cO];exact cD.lt
 have aS:w.heap.size+1<W2.heap.size:=by rw[←cO];exact cE.lt
 have cP:w.heap.size+2≤W2.heap.size:=by rw[←cO];exact Nat.le_trans z2 (Nat.le_refl _)
 clear cO;obtain⟨V5,aI⟩:∃z,z=C9 V4 ⟨W2.heap.size,0,none⟩ (c8 (Ct [seed])):=⟨_,rfl⟩;have aM:Bk V5 (W2.heap.size) 61 (c8 (Ct [seed])):=by rw[aI];exact Bk.put8 (aQ) ((show (z8 64).length=64 from by simp)) ((Bx [seed]))
 have aT:Bk V5 (w.heap.size) 23 (c8 seed):=by rw[aI];exact bF.putFar (p:=⟨W2.heap.size,0,none⟩) (by show w.heap.size≠W2.heap.size;omega) _
 have aU:Bk V5 (w.heap.size+1) 23 (c8 (z8 32)):=by rw[aI];exact bG.putFar (p:=⟨W2.heap.size,0,none⟩) (by show w.heap.size+1≠W2.heap.size;omega) _
 have cY:Below w.heap.size w V5:=by rw[aI];exact C1 dJ (by show w.heap.size≤W2.heap.size;omega) _
 obtain⟨V7,aJ⟩:∃z,z=V5.alloc (Obj.cells (c8 (z8 32)).toArray 23):=⟨_,rfl⟩;have cF:V5.heap.size=W2.heap.size+1:=by rw[aI,aE];simp
 have aV:Bk V7 (W2.heap.size+1) 23 (c8 (z8 32)):=by rw[aJ,←cF];exact Bk.new V5 _ _
 have bH:Bk V7 (w.heap.size) 23 (c8 seed):=by rw[aJ];exact aT.alloc _
 have bI:Bk V7 (w.heap.size+1) 23 (c8 (z8 32)):=by rw[aJ];exact aU.alloc _
 have bJ:Bk V7 (W2.heap.size) 61 (c8 (Ct [seed])):=by rw[aJ];exact aM.alloc _
 have dK:Below w.heap.size w V7:=by rw[aJ];exact cY.alloc cY.size _
 have aW:w.heap.size<W2.heap.size+1:=by rw[←cF];exact aT.lt
 have aX:w.heap.size+1<W2.heap.size+1:=by rw[←cF];exact aU.lt
 have aY:W2.heap.size<W2.heap.size+1:=by rw[←cF];exact aM.lt
 have cQ:w.heap.size+2≤W2.heap.size+1:=by rw[←cF];exact Nat.le_trans z2 (by rw[cF];omega)
 clear cF;obtain⟨V8,aN⟩:∃z,z=C9 V7 ⟨W2.heap.size+1,0,none⟩ (c8 (D9 (Ct [seed]) 0)):=⟨_,rfl⟩;have aF:Bk V8 (W2.heap.size+1) 23 (c8 (D9 (Ct [seed]) 0)):=by rw[aN];exact Bk.put8 (aV) ((show (z8 32).length=32 from by simp)) ((Ht (Bx [seed]) 0 (by decide)))
 have bK:Bk V8 (w.heap.size) 23 (c8 seed):=by rw[aN];exact bH.putFar (p:=⟨W2.heap.size+1,0,none⟩) (by show w.heap.size≠W2.heap.size+1;omega) _
 have bL:Bk V8 (w.heap.size+1) 23 (c8 (z8 32)):=by rw[aN];exact bI.putFar (p:=⟨W2.heap.size+1,0,none⟩) (by show w.heap.size+1≠W2.heap.size+1;omega) _
 have bM:Bk V8 (W2.heap.size) 61 (c8 (Ct [seed])):=by rw[aN];exact bJ.putFar (p:=⟨W2.heap.size+1,0,none⟩) (by show W2.heap.size≠W2.heap.size+1;omega) _
 have dL:Below w.heap.size w V8:=by rw[aN];exact C1 dK (by show w.heap.size≤W2.heap.size+1;omega) _
 obtain⟨cG,aC⟩:∃z,z=V8.setCell ⟨W2.heap.size+1,0,none⟩ (.int .u8 (n8 (g8 (D9 (Ct [seed]) 0) 0 &&& 248))):=⟨_,rfl⟩;have aA:Bk cG (W2.heap.size+1) 23 (c8 ((D9 (Ct [seed]) 0).set 0 (g8 (D9 (Ct [seed]) 0) 0 &&& 248))):=by have:=aF.set_ 0 (.int .u8 (n8 (g8 (D9 (Ct [seed]) 0) 0 &&& 248)));rw[Ia]at this;rw[aC];exact this
 have aZ:Bk cG (w.heap.size) 23 (c8 seed):=by rw[aC];exact bK.far (p:=⟨W2.heap.size+1,0,none⟩) (by show w.heap.size≠W2.heap.size+1;omega) _
 have bB:Bk cG (w.heap.size+1) 23 (c8 (z8 32)):=by rw[aC];exact bL.far (p:=⟨W2.heap.size+1,0,none⟩) (by show w.heap.size+1≠W2.heap.size+1;omega) _
 have bC:Bk cG (W2.heap.size) 61 (c8 (Ct [seed])):=by rw[aC];exact bM.far (p:=⟨W2.heap.size+1,0,none⟩) (by show W2.heap.size≠W2.heap.size+1;omega) _
 have cR:Below w.heap.size w cG:=by rw[aC];exact dL.setCell (by show w.heap.size≤W2.heap.size+1;omega) _
 have aA:Bk cG (W2.heap.size+1) 23 (c8 (Lw seed)):=aA;obtain⟨bD,aG⟩:∃z,z=cG.setCell ⟨W2.heap.size+1,31,none⟩ (.int .u8 (n8 (g8 (Lw seed) 31 &&& 127 ||| 64))):=⟨_,rfl⟩;have aB:Bk bD (W2.heap.size+1) 23 (c8 ((Lw seed).set 31 (g8 (Lw seed) 31 &&& 127 ||| 64))):=by have:=aA.set_ 31 (.int .u8 (n8 (g8 (Lw seed) 31 &&& 127 ||| 64)));rw[Ia]at this;rw[aG];exact this
 have aK:Bk bD (w.heap.size) 23 (c8 seed):=by rw[aG];exact aZ.far (p:=⟨W2.heap.size+1,31,none⟩) (by show w.heap.size≠W2.heap.size+1;omega) _
 have aL:Bk bD (w.heap.size+1) 23 (c8 (z8 32)):=by rw[aG];exact bB.far (p:=⟨W2.heap.size+1,31,none⟩) (by show w.heap.size+1≠W2.heap.size+1;omega) _
 have aD:Bk bD (W2.heap.size) 61 (c8 (Ct [seed])):=by rw[aG];exact bC.far (p:=⟨W2.heap.size+1,31,none⟩) (by show W2.heap.size≠W2.heap.size+1;omega) _
 have cH:Below w.heap.size w bD:=by rw[aG];exact cR.setCell (by show w.heap.size≤W2.heap.size+1;omega) _
 have bN:E8 V4 ⟨W2.heap.size,0,none⟩ 64=true:=Bk.can8 (aQ) ((show (z8 64).length=64 from by simp));rw[aE]at bN;have f6:=Bk.xyAt (aM) (Bx [seed]) 0 (by decide);rw[aI,aE]at f6;have bO:E8 V7 ⟨W2.heap.size+1,0,none⟩ 32=true:=Bk.can8 (aV) ((show (z8 32).length=32 from by simp));rw[aJ,aI,aE]at bO;have f9:=(aF).at_ (Fm (l:=(D9 (Ct [seed]) 0)) (i:=0) (by have hh:(D9 (Ct [seed]) 0).length=32:=(Ht (Bx [seed]) 0 (by decide));omega));rw[aN,aJ,aI,aE]at f9;have bP:=(aF).at_ (Fm (l:=(D9 (Ct [seed]) 0)) (i:=0) (by have hh:(D9 (Ct [seed]) 0).length=32:=(Ht (Bx [seed]) 0 (by decide));omega));rw[aN,aJ,aI,aE]at bP;have bQ:=(aF).frozen 0;rw[aN,aJ,aI,aE]at bQ;have dM:=(aA).at_ (Fm (l:=(Lw seed)) (i:=31) (by have hh:(Lw seed).length=32:=(Mp seed);omega));rw[aC,aN,aJ,aI,aE]at dM;have bR:=(aA).at_ (Fm (l:=(Lw seed)) (i:=31) (by have hh:(Lw seed).length=32:=(Mp seed);omega));rw[aC,aN,aJ,aI,aE]at bR;have bS:=(aA).frozen 31;rw[aC,aN,aJ,aI,aE]at bS;have cZ:(Ct [seed]).length=64:=(Bx [seed]);have dC:(D9 (Ct [seed]) 0).length=32:=(Ht (Bx [seed]) 0 (by decide));go_wp2_with fail;rw[←aE,←aI,←aJ,←aN,←aC,←aG];clear bN f6 bO f9 bP bQ dM bR bS cZ dC;obtain⟨bT,cI⟩:∃g,g=W2.heap.size:=⟨_,rfl⟩
 rw[←cI]at aD aB aR aS cP aW aX aY cQ;try rw[←cI]
 have cS:w.heap.size+2≤bD.heap.size:=by have hz:=z2;rw[aG,aC,aN,aJ,aI,aE];first | (simp;omega) | (simp[World.setCell];omega)
 clear aE aI aJ aN aC aG cI cD cE B2 z2 bF bG aQ dJ aT aU aM cY bH bI bJ aV dK bK bL bM aF dL aZ bB bC aA cR;have aB:Bk bD (bT+1) 23 (c8 (H8 seed)):=aB;go_wp2_with fail;have bU:Below bD.heap.size bD bD.drew:=(Below.refl _ _).drew;refine F2 (fun W=>Bk W (bT+1) 23 (c8 (H8 seed))) (by kernel_rfl) ?_;refine C6 (A:=?dT) [0,1] (by kernel_rfl) (by kernel_rfl) rfl (by kernel_rfl) (by kernel_rfl) (aB.drew) (h:=fun W hW=>?dD) (hr:=?dU);case dD=>
  have f0:=Bk.row8 (n:=32) (hW) ((Y8 seed));simp only[pick,List.getElem?_cons_zero,List.getElem?_cons_succ];repeat (go_big_quiet_step (fail))
  refine wpQuiet_nil ?_;rfl
 obtain⟨dN,cJ⟩:∃z,z=bD.drew:=⟨_,rfl⟩;rw[←cJ];rw[←cJ]at bU;have dO:=C0 cH bU cH.size;have dQ:=Nat.le_trans cS bU.size;have bV:=aK.below bU aK.lt;have bE:=aL.below bU aL.lt;have bX:=aD.below bU aD.lt;have bY:=aB.below bU aB.lt;clear cJ bU cH cS aK aL aD aB;obtain⟨cM,aH⟩:∃z,z=C9 dN ⟨w.heap.size+1,0,none⟩ (c8 (H8 seed)):=⟨_,rfl⟩;have cT:Bk cM (w.heap.size+1) 23 (c8 (H8 seed)):=by rw[aH];exact Bk.put8 (bE) ((show (z8 32).length=32 from by simp)) ((Y8 seed))
 have dS:Bk cM (w.heap.size) 23 (c8 seed):=by rw[aH];exact bV.putFar (p:=⟨w.heap.size+1,0,none⟩) (by show w.heap.size≠w.heap.size+1;omega) _
 have cU:Bk cM (bT) 61 (c8 (Ct [seed])):=by rw[aH];exact bX.putFar (p:=⟨w.heap.size+1,0,none⟩) (by show bT≠w.heap.size+1;omega) _
 have bZ:Bk cM (bT+1) 23 (c8 (H8 seed)):=by rw[aH];exact bY.putFar (p:=⟨w.heap.size+1,0,none⟩) (by show bT+1≠w.heap.size+1;omega) _
 have dW:Below w.heap.size w cM:=by rw[aH];exact C1 dO (by show w.heap.size≤w.heap.size+1;omega) _
 have cK:E8 dN ⟨w.heap.size+1,0,none⟩ 32=true:=Bk.can8 (bE) ((show (z8 32).length=32 from by simp));have cL:(H8 seed).length=32:=(Y8 seed);refine C4 2 (by kernel_rfl) (by rfl) (by rfl) (fun Q' hQ'=>?_);dsimp only[E4];go_wp2_with fail;rw[←aH];refine hQ' _ _ bZ ?_;clear hQ' cK cL;have dX:w.heap.size+2≤cM.heap.size:=by have hz:=dQ;rw[aH];simp;omega
 clear aH dO dQ bV bE bX bY;refine C4 3 (by kernel_rfl) (by rfl) (by rfl) (fun Q' hQ'=>?_);dsimp only[E4];go_wp2_with fail;refine hQ' _ _ bZ ?_;clear hQ';refine I9 (by kernel_rfl) ?_;go_wp2_with fail;refine bodyPost_ret (v:=.tuple #[A8 (H8 seed),.slice (some ⟨bT,32,none⟩) 32 32]) ?_ rfl ⟨bT,rfl,cU,by omega,dW⟩;refine P9 rfl ?_ ?_
 ·exact M5.row cT rfl _ Tryz.underlying23 rfl (by simp[N6])
 ·exact M5.tmp rfl
def I4 (seed:List UInt8):List UInt8:=D9 (Ct [seed]) 32
@[simp, go_sem] theorem C4i (seed : List UInt8) : (I4 seed).length = 32 := Ht (Bx _) 32 (by decide)
noncomputable def U7 (seed:List UInt8):List UInt8:=C8 (F8 C3 (H8 seed))
@[simp, go_sem] theorem Eb (seed : List UInt8) : (U7 seed).length = 32 := K9 _
theorem B3w (seed:List UInt8) (hs:seed.length=32) (w:World):Calls Tryz.prog 42 #[A8 seed] w fun e w'=>e=.returned (A8 (U7 seed))∧Below w.heap.size w w':=by
 obtain⟨W0,bO⟩:∃z,z=((w.alloc (Obj.cells (c8 seed).toArray 23)).alloc (Obj.cells (c8 (z8 32)).toArray 23)):=⟨_,rfl⟩;have hL:W0=Q5 w [(23,(c8 seed)),(23,(c8 (z8 32)))]:=bO;have B0:Below w.heap.size w W0:=by rw[hL];exact J9 _ _
 have aC:Bk W0 (w.heap.size) 23 (c8 seed):=by rw[hL];exact F9 _ w 0 _ _ rfl
 have aL:Bk W0 (w.heap.size+1) 23 (c8 (z8 32)):=by rw[hL];exact F9 _ w 1 _ _ rfl
 have z0:w.heap.size+2≤W0.heap.size:=by rw[hL,H9];simp
 have cH:W0.heap.size=w.heap.size+2:=by rw[hL,H9];rfl
 clear hL;have f1:=Bk.row8 (n:=32) (aC) (hs);rw[bO]at f1;go_enter Tryz.func42,Tryz.ntmps42;go_wp2_with fail;rw[←bO];clear f1;clear bO cH;refine (Zy seed hs W0).mono ?_;rintro e W2 ⟨p4,rfl,aD,bP,b3⟩;have bB:w.heap.size<p4:=Nat.lt_of_lt_of_le aC.lt bP;have bC:w.heap.size+1<p4:=Nat.lt_of_lt_of_le aL.lt bP;have bZ:w.heap.size+2≤p4:=Nat.le_trans z0 bP;clear bP;have B2:=C0 B0 b3 B0.size;have z2:=Nat.le_trans z0 b3.size;have aS:=aC.below b3 aC.lt;have aT:=aL.below b3 aL.lt;clear b3 B0 z0 aC aL;have aD:Bk W2 (p4) 61 (c8 (Ct [seed])):=aD;obtain⟨V5,aM⟩:∃z,z=W2.alloc (Obj.cells (c8 (z8 32)).toArray 23):=⟨_,rfl⟩;have aY:W2.heap.size=W2.heap.size:=rfl;have aE:Bk V5 (W2.heap.size) 23 (c8 (z8 32)):=by rw[aM,←aY];exact Bk.new W2 _ _
 have aN:Bk V5 (w.heap.size) 23 (c8 seed):=by rw[aM];exact aS.alloc _
 have aO:Bk V5 (w.heap.size+1) 23 (c8 (z8 32)):=by rw[aM];exact aT.alloc _
 have aP:Bk V5 (p4) 61 (c8 (Ct [seed])):=by rw[aM];exact aD.alloc _
 have cB:Below w.heap.size w V5:=by rw[aM];exact B2.alloc B2.size _
 have aF:w.heap.size<W2.heap.size:=by rw[←aY];exact aS.lt
 have aG:w.heap.size+1<W2.heap.size:=by rw[←aY];exact aT.lt
 have aH:p4<W2.heap.size:=by rw[←aY];exact aD.lt
 have bD:w.heap.size+2≤W2.heap.size:=by rw[←aY];exact Nat.le_trans z2 (Nat.le_refl _)
 clear aY;obtain⟨V6,aQ⟩:∃z,z=C9 V5 ⟨W2.heap.size,0,none⟩ (c8 (H8 seed)):=⟨_,rfl⟩;have aA:Bk V6 (W2.heap.size) 23 (c8 (H8 seed)):=by rw[aQ];exact Bk.put8 (aE) ((show (z8 32).length=32 from by simp)) ((Y8 seed))
 have aI:Bk V6 (w.heap.size) 23 (c8 seed):=by rw[aQ];exact aN.putFar (p:=⟨W2.heap.size,0,none⟩) (by show w.heap.size≠W2.heap.size;omega) _
 have aJ:Bk V6 (w.heap.size+1) 23 (c8 (z8 32)):=by rw[aQ];exact aO.putFar (p:=⟨W2.heap.size,0,none⟩) (by show w.heap.size+1≠W2.heap.size;omega) _
 have aK:Bk V6 (p4) 61 (c8 (Ct [seed])):=by rw[aQ];exact aP.putFar (p:=⟨W2.heap.size,0,none⟩) (by show p4≠W2.heap.size;omega) _
 have bQ:Below w.heap.size w V6:=by rw[aQ];exact C1 cB (by show w.heap.size≤W2.heap.size;omega) _
 have aR:E8 V5 ⟨W2.heap.size,0,none⟩ 32=true:=Bk.can8 (aE) ((show (z8 32).length=32 from by simp));rw[aM]at aR;have bR:(H8 seed).length=32:=(Y8 seed);go_wp2_with fail;rw[←aM,←aQ];clear aR bR;obtain⟨p7,bS⟩:∃g,g=W2.heap.size:=⟨_,rfl⟩;rw[←bS]at aA aF aG aH bD;try rw[←bS]
 have cC:w.heap.size+2≤V6.heap.size:=by have hz:=z2;rw[aQ,aM];first | (simp;omega) | (simp[World.setCell];omega)
 clear aM aQ bS aS aT aD B2 z2 aN aO aP aE cB;have S8:Below V6.heap.size V6 V6.drew:=(Below.refl _ _).drew;refine F2 (fun W=>Bk W (p7) 23 (c8 (H8 seed))) (by kernel_rfl) ?_;refine C6 (A:=?cL) [1] (by kernel_rfl) (by kernel_rfl) rfl (by kernel_rfl) (by kernel_rfl) (aA.drew) (h:=fun W hW=>?cI) (hr:=?cM);case cI=>
  have f1:=Bk.row8 (n:=32) (hW) ((Y8 seed));simp only[pick,List.getElem?_cons_zero,List.getElem?_cons_succ];repeat (go_big_quiet_step (fail))
  refine wpQuiet_nil ?_;rfl
 refine N9 [zv 0 10 (J7 C3.row),zv 2 12 (J7 (F8 C3 (H8 seed)).row),zv 3 13 (A8 (C8 (F8 C3 (H8 seed))))] (by kernel_rfl) (fun W hW=>(aA.drew.below hW aA.drew.lt)) ?bE ?bF ?bG;case bE=>exact (List.forall_mem_cons.2 ⟨H7 _ _ _,(List.forall_mem_cons.2 ⟨H7 _ _ _,(List.forall_mem_cons.2 ⟨H7 _ _ _,(fun _ h=>by cases h)⟩)⟩)⟩)
 case bF=>
  refine (List.forall_mem_cons.2 ⟨?bT,(List.forall_mem_cons.2 ⟨?bU,(List.forall_mem_cons.2 ⟨?bV,(fun _ h=>by cases h)⟩)⟩)⟩);case bT=>
   intro o ho us W hW hp Q' hQ';obtain rfl:=Option.some.inj ho;clear hp ho;rw[C2]at hQ' ⊢;dsimp only[E4,E0,List.foldl,zv,za]at hQ' ⊢;simp only[List.set_cons_succ,List.set_cons_zero];go_wp2_with fail;refine (Om W).mono ?_;rintro e W2 ⟨rfl,b2⟩;go_wp2_with fail;exact C5 (hQ' _ _ b2 rfl (fun h=>by cases h)) (by kernel_rfl)
  case bU=>intro o ho us W hW hp Q' hQ';obtain rfl:=Option.some.inj ho;have bH:us 0=(J7 C3.row):=hp 0 _ rfl (by kernel_rfl);clear hp ho;rw[C2]at hQ' ⊢;dsimp only[E4,E0,List.foldl,zv,za]at hQ' ⊢;simp only[List.set_cons_succ,List.set_cons_zero];rw[bH]at hQ' ⊢;clear bH;go_wp2_with fail;refine (A1u C3 (H8 seed) Ae (Y8 seed) W).mono ?_;rintro e W2 ⟨rfl,b2⟩;go_wp2_with fail;exact C5 (hQ' _ _ b2 rfl (fun h=>by cases h)) (by kernel_rfl)
  case bV=>intro o ho us W hW hp Q' hQ';obtain rfl:=Option.some.inj ho;have bI:us 2=(J7 (F8 C3 (H8 seed)).row):=hp 1 _ rfl (by kernel_rfl);clear hp ho;rw[C2]at hQ' ⊢;dsimp only[E4,E0,List.foldl,zv,za]at hQ' ⊢;simp only[List.set_cons_succ,List.set_cons_zero];rw[bI]at hQ' ⊢;clear bI;go_wp2_with fail;refine (Rh (F8 C3 (H8 seed)) (A8l Ae (H8 seed)) W).mono ?_;rintro e W2 ⟨rfl,b2⟩;go_wp2_with fail;exact C5 (hQ' _ _ b2 rfl (fun h=>by cases h)) (by kernel_rfl)
 case bG=>
 intro us W9 cD hg bX cJ;have bH:us 0=(J7 C3.row):=hg _ (List.mem_of_getElem? (i:=0) rfl);have bI:us 2=(J7 (F8 C3 (H8 seed)).row):=hg _ (List.mem_of_getElem? (i:=1) rfl);have cE:us 3=(A8 (C8 (F8 C3 (H8 seed)))):=hg _ (List.mem_of_getElem? (i:=2) rfl);have aU:=C0 S8 cD S8.size;rw[C2];dsimp only[E0,List.foldl,zv,za];simp only[List.set_cons_succ,List.set_cons_zero];rw[bH,bI,cE];clear hg bX cJ bH bI cE cD S8;have B9:=C0 bQ aU bQ.size;have z9:=Nat.le_trans cC aU.size;have bJ:=aI.below aU aI.lt;have aV:=aJ.below aU aJ.lt;have bK:=aK.below aU aK.lt;have bL:=aA.below aU aA.lt;clear aU bQ cC aI aJ aK aA;obtain⟨aZ,aB⟩:∃z,z=C9 W9 ⟨w.heap.size+1,0,none⟩ (c8 (C8 (F8 C3 (H8 seed)))):=⟨_,rfl⟩;have bM:Bk aZ (w.heap.size+1) 23 (c8 (C8 (F8 C3 (H8 seed)))):=by rw[aB];exact Bk.put8 (aV) ((show (z8 32).length=32 from by simp)) ((K9 (F8 C3 (H8 seed))))
 have cF:Bk aZ (w.heap.size) 23 (c8 seed):=by rw[aB];exact bJ.putFar (p:=⟨w.heap.size+1,0,none⟩) (by show w.heap.size≠w.heap.size+1;omega) _
 have cG:Bk aZ (p4) 61 (c8 (Ct [seed])):=by rw[aB];exact bK.putFar (p:=⟨w.heap.size+1,0,none⟩) (by show p4≠w.heap.size+1;omega) _
 have bN:Bk aZ (p7) 23 (c8 (H8 seed)):=by rw[aB];exact bL.putFar (p:=⟨w.heap.size+1,0,none⟩) (by show p7≠w.heap.size+1;omega) _
 have cK:Below w.heap.size w aZ:=by rw[aB];exact C1 B9 (by show w.heap.size≤w.heap.size+1;omega) _
 have aW:E8 W9 ⟨w.heap.size+1,0,none⟩ 32=true:=Bk.can8 (aV) ((show (z8 32).length=32 from by simp));have aX:(C8 (F8 C3 (H8 seed))).length=32:=(K9 (F8 C3 (H8 seed)));refine C4 4 (by kernel_rfl) (by rfl) (by rfl) (fun Q' hQ'=>?_);dsimp only[E4];go_wp2_with fail;rw[←aB];refine hQ' _ _ bN ?_;clear hQ' aW aX;have cN:w.heap.size+2≤aZ.heap.size:=by have hz:=z9;rw[aB];simp;omega
 clear aB B9 z9 bJ aV bK bL;refine I9 (by kernel_rfl) ?_;go_wp2_with fail;have bY:(C8 (F8 C3 (H8 seed))).length=32:=(K9 (F8 C3 (H8 seed)));refine bodyPost_ret (E9 rfl _ _ _ _ _ _ rfl bM Tryz.underlying23 rfl (by simp[N6,bY])) rfl ⟨rfl,cK⟩
end Go.Proofs.YtlegpkdighoflaaGreat
