/- A part of the proof of DirBuilds. -/
import Derived.ArgAppend
import Derived.Test.YtlegpkdighoflaaGreatSat
set_option linter.unusedVariables false
set_option linter.unusedSimpArgs false
set_option maxRecDepth 100000
set_option maxHeartbeats 40000000
namespace Go.Proofs.YtlegpkdighoflaaGreat
open Go Go.RowKit Sh
noncomputable def Fw (p:Pn) (n:List UInt8):Nat→Pn
 | 0=>Q4 (J1 p F0) 0
 | m+1=>X6 (Be 4 (Fw p n m)) (Q4 (J1 p F0) (dg n (63-m))) F0
theorem El {p:Pn} (hp:p.Ok) (n:List UInt8):∀m,(Fw p n m).Ok
 | 0=>(Y7 hp F0).at 0
 | m+1=>Db _ _ _
noncomputable def F8 (p:Pn) (n:List UInt8):Pn:=if p.row==C3.row then Nd n else Fw p n 64
theorem A8l {p:Pn} (hp:p.Ok) (n:List UInt8):(F8 p n).Ok:=by
 unfold F8;split
 ·exact Qz n
 ·exact El hp n 64
theorem A9d {p:Pn} (n:List UInt8) (h:(p.row==C3.row)=true):F8 p n=Nd n:=if_pos h
theorem D0h {p:Pn} (n:List UInt8) (h:(p.row==C3.row)=false):F8 p n=Fw p n 64:=if_neg (by rw[h];decide)
theorem A1u (p:Pn) (n:List UInt8) (hp:p.Ok) (hn:n.length=32) (w:World):Calls Tryz.prog 66 #[J7 p.row,A8 n] w fun e w'=>e=.returned (J7 (F8 p n).row)∧Below w.heap.size w w':=by
 have jO:=hp.row;have jP:=Ae.row;obtain⟨W0,gV⟩:∃z,z=(((w.alloc (Obj.cells (C7 p.row).toArray 140)).alloc (Obj.cells (c8 n).toArray 23)).alloc (Obj.cells (C7 (J8 20)).toArray 140)):=⟨_,rfl⟩;have hL:W0=Q5 w [(140,(C7 p.row)),(23,(c8 n)),(140,(C7 (J8 20)))]:=gV;have B0:Below w.heap.size w W0:=by rw[hL];exact J9 _ _
 have bH:Bk W0 (w.heap.size) 140 (C7 p.row):=by rw[hL];exact F9 _ w 0 _ _ rfl
 have eM:Bk W0 (w.heap.size+1) 23 (c8 n):=by rw[hL];exact F9 _ w 1 _ _ rfl
 have eN:Bk W0 (w.heap.size+2) 140 (C7 (J8 20)):=by rw[hL];exact F9 _ w 2 _ _ rfl
 have z0:w.heap.size+3≤W0.heap.size:=by rw[hL,H9];simp
 have jC:W0.heap.size=w.heap.size+3:=by rw[hL,H9];rfl
 clear hL;go_enter Tryz.func66,Tryz.ntmps66;go_wp2_with fail;rw[←gV];clear gV jC;have S1:Below W0.heap.size W0 W0.drew:=(Below.refl _ _).drew;refine F2 (fun W=>Bk W (w.heap.size) 140 (C7 p.row)) (by kernel_rfl) ?_;refine C6 (A:=?jQ) [0] (by kernel_rfl) (by kernel_rfl) rfl (by kernel_rfl) (by kernel_rfl) (bH.drew) (h:=fun W hW=>?jD) (hr:=?jR);case jD=>
  have f0:=Bk.row64 (n:=20) (hW) (hp.row);simp only[pick,List.getElem?_cons_zero,List.getElem?_cons_succ];repeat (go_big_quiet_step (fail))
  refine wpQuiet_nil ?_;rfl
 refine N9 [zv 1 10 (J7 C3.row),zv 2 11 (.bool (p.row==C3.row))] (by kernel_rfl) (fun W hW=>(bH.drew.below hW bH.drew.lt)) ?fR ?fS ?fT;case fR=>exact (List.forall_mem_cons.2 ⟨H7 _ _ _,(List.forall_mem_cons.2 ⟨H7 _ _ _,(fun _ h=>by cases h)⟩)⟩)
 case fS=>
  refine (List.forall_mem_cons.2 ⟨?gW,(List.forall_mem_cons.2 ⟨?gX,(fun _ h=>by cases h)⟩)⟩);case gW=>
   intro o ho us W hW hp Q' hQ';obtain rfl:=Option.some.inj ho;clear hp ho;rw[C2]at hQ' ⊢;dsimp only[E4,E0,List.foldl,zv,za]at hQ' ⊢;simp only[List.set_cons_succ,List.set_cons_zero];go_wp2_with fail;refine (Om W).mono ?_;rintro e W2 ⟨rfl,b2⟩;go_wp2_with fail;exact C5 (hQ' _ _ b2 rfl (fun h=>by cases h)) (by kernel_rfl)
  case gX=>intro o ho us W hW hp Q' hQ';obtain rfl:=Option.some.inj ho;have fU:us 1=(J7 C3.row):=hp 0 _ rfl (by kernel_rfl);clear hp ho;rw[C2]at hQ' ⊢;dsimp only[E4,E0,List.foldl,zv,za]at hQ' ⊢;simp only[List.set_cons_succ,List.set_cons_zero];rw[fU]at hQ' ⊢;clear fU;go_wp2_with fail;exact C5 (hQ' _ _ (Below.refl _ _) rfl (fun h=>by cases h)) (by kernel_rfl)
 case fT=>
 intro us W2 b3 hg eO gY;have fU:us 1=(J7 C3.row):=hg _ (List.mem_of_getElem? (i:=0) rfl);have iP:us 2=(.bool (p.row==C3.row)):=hg _ (List.mem_of_getElem? (i:=1) rfl);have b4:=C0 S1 b3 S1.size;rw[C2];dsimp only[E0,List.foldl,zv,za];simp only[List.set_cons_succ,List.set_cons_zero];rw[fU,iP];clear hg eO gY fU iP b3 S1;have B2:=C0 B0 b4 B0.size;have z2:=Nat.le_trans z0 b4.size;have bI:=bH.below b4 bH.lt;have aU:=eM.below b4 eM.lt;have bJ:=eN.below b4 eN.lt;clear b4 B0 z0 bH eM eN;refine I9 (by kernel_rfl) ?_;cases hz:(p.row==C3.row);case false=>
  have HZ:=Lib.hid (D0h n hz);clear hz;go_wp2_with fail;refine (Vn W2).mono ?_;rintro e W5 ⟨rfl,b6⟩;have B5:=C0 B2 b6 B2.size;have z5:=Nat.le_trans z2 b6.size;have eP:=bI.below b6 bI.lt;have eQ:=aU.below b6 aU.lt;have eS:=bJ.below b6 bJ.lt;clear b6 B2 z2 bI aU bJ;obtain⟨V7,bK⟩:∃z,z=W5.alloc (Obj.cells (C7 (J8 5)).toArray 138):=⟨_,rfl⟩;have fP:W5.heap.size=W5.heap.size:=rfl;have bL:Bk V7 (W5.heap.size) 138 (C7 (J8 5)):=by rw[bK,←fP];exact Bk.new W5 _ _
  have dJ:Bk V7 (w.heap.size) 140 (C7 p.row):=by rw[bK];exact eP.alloc _
  have dK:Bk V7 (w.heap.size+1) 23 (c8 n):=by rw[bK];exact eQ.alloc _
  have dL:Bk V7 (w.heap.size+2) 140 (C7 (J8 20)):=by rw[bK];exact eS.alloc _
  have iQ:Below w.heap.size w V7:=by rw[bK];exact B5.alloc B5.size _
  have bM:w.heap.size<W5.heap.size:=by rw[←fP];exact eP.lt
  have bN:w.heap.size+1<W5.heap.size:=by rw[←fP];exact eQ.lt
  have bO:w.heap.size+2<W5.heap.size:=by rw[←fP];exact eS.lt
  have fV:w.heap.size+3≤W5.heap.size:=by rw[←fP];exact Nat.le_trans z5 (Nat.le_refl _)
  clear fP;obtain⟨V8,cY⟩:∃z,z=C9 V7 ⟨W5.heap.size,0,none⟩ (C7 F0):=⟨_,rfl⟩;have aS:Bk V8 (W5.heap.size) 138 (C7 F0):=by rw[cY];exact Bk.put64 (bL) ((show (J8 5).length=5 from by simp)) (O7)
  have bG:Bk V8 (w.heap.size) 140 (C7 p.row):=by rw[cY];exact dJ.putFar (p:=⟨W5.heap.size,0,none⟩) (by show w.heap.size≠W5.heap.size;omega) _
  have bP:Bk V8 (w.heap.size+1) 23 (c8 n):=by rw[cY];exact dK.putFar (p:=⟨W5.heap.size,0,none⟩) (by show w.heap.size+1≠W5.heap.size;omega) _
  have bQ:Bk V8 (w.heap.size+2) 140 (C7 (J8 20)):=by rw[cY];exact dL.putFar (p:=⟨W5.heap.size,0,none⟩) (by show w.heap.size+2≠W5.heap.size;omega) _
  have gZ:Below w.heap.size w V8:=by rw[cY];exact C1 iQ (by show w.heap.size≤W5.heap.size;omega) _
  have dM:E8 V7 ⟨W5.heap.size,0,none⟩ 5=true:=Bk.can64 (bL) ((show (J8 5).length=5 from by simp));rw[bK]at dM;have f9:=Bk.row64 (n:=20) (bG) (hp.row);rw[cY,bK]at f9;have f10:=Bk.row64 (n:=5) (aS) (O7);rw[cY,bK]at f10;have aP:F0.length=5:=O7;go_wp2_with fail;rw[←bK,←cY];clear dM f9 f10 aP;obtain⟨aT,eT⟩:∃g,g=W5.heap.size:=⟨_,rfl⟩;rw[←eT]at aS bM bN bO fV;try rw[←eT]
  have iR:w.heap.size+3≤V8.heap.size:=by have hz:=z5;rw[cY,bK];first | (simp;omega) | (simp[World.setCell];omega)
  clear bK cY eT eP eQ eS B5 z5 dJ dK dL bL iQ;refine (Zi p F0 hp O7 V8).mono ?_;rintro e aA ⟨rfl,eU⟩;have iA:=C0 gZ eU gZ.size;have gU:=Nat.le_trans iR eU.size;have bR:=bG.below eU bG.lt;have bS:=bP.below eU bP.lt;have bT:=bQ.below eU bQ.lt;have bU:=aS.below eU aS.lt;clear eU gZ iR bG bP bQ aS;obtain⟨dN,aI⟩:∃z,z=aA.alloc (Obj.cells (C7 (J8 320)).toArray 177):=⟨_,rfl⟩;have aV:aA.heap.size=aA.heap.size:=rfl;have aW:Bk dN (aA.heap.size) 177 (C7 (J8 320)):=by rw[aI,←aV];exact Bk.new aA _ _
  have bV:Bk dN (w.heap.size) 140 (C7 p.row):=by rw[aI];exact bR.alloc _
  have bX:Bk dN (w.heap.size+1) 23 (c8 n):=by rw[aI];exact bS.alloc _
  have bY:Bk dN (w.heap.size+2) 140 (C7 (J8 20)):=by rw[aI];exact bT.alloc _
  have bZ:Bk dN (aT) 138 (C7 F0):=by rw[aI];exact bU.alloc _
  have fW:Below w.heap.size w dN:=by rw[aI];exact iA.alloc iA.size _
  have cB:w.heap.size<aA.heap.size:=by rw[←aV];exact bR.lt
  have cC:w.heap.size+1<aA.heap.size:=by rw[←aV];exact bS.lt
  have cD:w.heap.size+2<aA.heap.size:=by rw[←aV];exact bT.lt
  have cE:aT<aA.heap.size:=by rw[←aV];exact bU.lt
  have fX:w.heap.size+3≤aA.heap.size:=by rw[←aV];exact Nat.le_trans gU (Nat.le_refl _)
  clear aV;obtain⟨dC,aJ⟩:∃z,z=C9 dN ⟨aA.heap.size,0,none⟩ (C7 (Pl (J1 p F0))):=⟨_,rfl⟩;have aQ:Bk dC (aA.heap.size) 177 (C7 (Pl (J1 p F0))):=by rw[aJ];exact Bk.put64 (aW) ((show (J8 320).length=320 from by simp)) ((show (Pl (J1 p F0)).length=320 from by rw[X5 (Y7 hp F0)];simp))
  have aX:Bk dC (w.heap.size) 140 (C7 p.row):=by rw[aJ];exact bV.putFar (p:=⟨aA.heap.size,0,none⟩) (by show w.heap.size≠aA.heap.size;omega) _
  have aY:Bk dC (w.heap.size+1) 23 (c8 n):=by rw[aJ];exact bX.putFar (p:=⟨aA.heap.size,0,none⟩) (by show w.heap.size+1≠aA.heap.size;omega) _
  have aZ:Bk dC (w.heap.size+2) 140 (C7 (J8 20)):=by rw[aJ];exact bY.putFar (p:=⟨aA.heap.size,0,none⟩) (by show w.heap.size+2≠aA.heap.size;omega) _
  have bB:Bk dC (aT) 138 (C7 F0):=by rw[aJ];exact bZ.putFar (p:=⟨aA.heap.size,0,none⟩) (by show aT≠aA.heap.size;omega) _
  have eV:Below w.heap.size w dC:=by rw[aJ];exact C1 fW (by show w.heap.size≤aA.heap.size;omega) _
  obtain⟨dD,aK⟩:∃z,z=dC.alloc (Obj.cells (C7 (J8 20)).toArray 140):=⟨_,rfl⟩;have aR:dC.heap.size=aA.heap.size+1:=by rw[aJ,aI];simp
  have bC:Bk dD (aA.heap.size+1) 140 (C7 (J8 20)):=by rw[aK,←aR];exact Bk.new dC _ _
  have cF:Bk dD (w.heap.size) 140 (C7 p.row):=by rw[aK];exact aX.alloc _
  have cG:Bk dD (w.heap.size+1) 23 (c8 n):=by rw[aK];exact aY.alloc _
  have cH:Bk dD (w.heap.size+2) 140 (C7 (J8 20)):=by rw[aK];exact aZ.alloc _
  have cI:Bk dD (aT) 138 (C7 F0):=by rw[aK];exact bB.alloc _
  have cJ:Bk dD (aA.heap.size) 177 (C7 (Pl (J1 p F0))):=by rw[aK];exact aQ.alloc _
  have fY:Below w.heap.size w dD:=by rw[aK];exact eV.alloc eV.size _
  have cK:w.heap.size<aA.heap.size+1:=by rw[←aR];exact aX.lt
  have cL:w.heap.size+1<aA.heap.size+1:=by rw[←aR];exact aY.lt
  have cM:w.heap.size+2<aA.heap.size+1:=by rw[←aR];exact aZ.lt
  have cN:aT<aA.heap.size+1:=by rw[←aR];exact bB.lt
  have cO:aA.heap.size<aA.heap.size+1:=by rw[←aR];exact aQ.lt
  have fZ:w.heap.size+3≤aA.heap.size+1:=by rw[←aR];exact Nat.le_trans gU (by rw[aR];omega)
  clear aR;obtain⟨dO,aL⟩:∃z,z=C9 dD ⟨aA.heap.size+1,0,none⟩ (C7 (Q4 (J1 p F0) 0).row):=⟨_,rfl⟩;have bD:Bk dO (aA.heap.size+1) 140 (C7 (Q4 (J1 p F0) 0).row):=by rw[aL];exact Bk.put64 (bC) ((show (J8 20).length=20 from by simp)) (((Y7 hp F0).at 0).row)
  have cP:Bk dO (w.heap.size) 140 (C7 p.row):=by rw[aL];exact cF.putFar (p:=⟨aA.heap.size+1,0,none⟩) (by show w.heap.size≠aA.heap.size+1;omega) _
  have cQ:Bk dO (w.heap.size+1) 23 (c8 n):=by rw[aL];exact cG.putFar (p:=⟨aA.heap.size+1,0,none⟩) (by show w.heap.size+1≠aA.heap.size+1;omega) _
  have cR:Bk dO (w.heap.size+2) 140 (C7 (J8 20)):=by rw[aL];exact cH.putFar (p:=⟨aA.heap.size+1,0,none⟩) (by show w.heap.size+2≠aA.heap.size+1;omega) _
  have cS:Bk dO (aT) 138 (C7 F0):=by rw[aL];exact cI.putFar (p:=⟨aA.heap.size+1,0,none⟩) (by show aT≠aA.heap.size+1;omega) _
  have bE:Bk dO (aA.heap.size) 177 (C7 (Pl (J1 p F0))):=by rw[aL];exact cJ.putFar (p:=⟨aA.heap.size+1,0,none⟩) (by show aA.heap.size≠aA.heap.size+1;omega) _
  have gF:Below w.heap.size w dO:=by rw[aL];exact C1 fY (by show w.heap.size≤aA.heap.size+1;omega) _
  have cT:E8 dN ⟨aA.heap.size,0,none⟩ 320=true:=Bk.can64 (aW) ((show (J8 320).length=320 from by simp));rw[aI]at cT;have iS:=show E5 _ ⟨_,0,none⟩ 20=some (C7 (Q4 (J1 p F0) 0).row) from Bk.plAt (i:=0) (aQ) (Y7 hp F0) (by simp;try omega);rw[aJ,aI]at iS;have cU:E8 dD ⟨aA.heap.size+1,0,none⟩ 20=true:=Bk.can64 (bC) ((show (J8 20).length=20 from by simp));rw[aK,aJ,aI]at cU;have aP:(Pl (J1 p F0)).length=320:=(show (Pl (J1 p F0)).length=320 from by rw[X5 (Y7 hp F0)];simp);have iB:(Q4 (J1 p F0) 0).row.length=20:=((Y7 hp F0).at 0).row;go_wp2_with fail;rw[←aI,←aJ,←aK,←aL];clear cT iS cU aP iB;obtain⟨aC,eW⟩:∃g,g=aA.heap.size:=⟨_,rfl⟩;rw[←eW]at bE bD cB cC cD cE fX cK cL cM cN cO fZ;try rw[←eW]
  have gG:w.heap.size+3≤dO.heap.size:=by have hz:=gU;rw[aL,aK,aJ,aI];first | (simp;omega) | (simp[World.setCell];omega)
  clear aI aJ aK aL eW bR bS bT bU iA gU bV bX bY bZ aW fW aX aY aZ bB aQ eV cF cG cH cI cJ bC fY;go_loopw [8] (fun x8 wr=>∃m:Nat,0≤m∧m≤64∧x8=.int .i64 (63-(m:Int))∧Bk wr (w.heap.size) 140 (C7 p.row)∧Bk wr (w.heap.size+1) 23 (c8 n)∧Bk wr (w.heap.size+2) 140 (C7 (J8 20))∧Bk wr (aT) 138 (C7 F0)∧Bk wr (aC) 177 (C7 (Pl (J1 p F0)))∧Bk wr (aC+1) 140 (C7 (Fw p n m).row)∧Below w.heap.size w wr∧w.heap.size+3≤wr.heap.size) (fun x8 _=>(intOf x8+1).toNat)
  case atStart=>exact ⟨0,by omega,by omega,rfl,cP,cQ,cR,cS,bE,bD,gF,gG⟩
  case round=>
   clear gF gG cP cQ cR cS bE bD;obtain⟨m,jS,hm,rfl,aH,aD,aG,aE,aF,aB,cZ,dF⟩:=hrel;by_cases hltm:m<64
   ·
    obtain⟨s,hs⟩:∃s,s=63-m:=⟨_,rfl⟩;have es:63-(m:Int)=(s:Int):=by omega
    have jE:s<64:=by omega
    have hd:decide (0≤(s:Int))=true:=decide_eq_true (by omega);rw[es];have HM:Hid (Fw p n (m+1)=X6 (Be 4 (Fw p n m)) (Q4 (J1 p F0) (dg n s)) F0):=Lib.hid (by rw[hs];rfl);have ES:=Lib.hid es;clear hs es;have jF:=A8q n s;go_wp2_with fail;go_loopw [24] (fun x24 wr=>∃q:Nat,0≤q∧q≤4∧x24=.int .i64 (q:Int)∧Bk wr (w.heap.size) 140 (C7 p.row)∧Bk wr (w.heap.size+1) 23 (c8 n)∧Bk wr (w.heap.size+2) 140 (C7 (J8 20))∧Bk wr (aT) 138 (C7 F0)∧Bk wr (aC) 177 (C7 (Pl (J1 p F0)))∧Bk wr (aC+1) 140 (C7 (Be q (Fw p n m)).row)∧Below w.heap.size w wr∧w.heap.size+3≤wr.heap.size) (fun x24 _=>4-(intOf x24).toNat)
    case atStart=>exact ⟨0,by omega,by omega,rfl,aH,aD,aG,aE,aF,aB,cZ,dF⟩
    case round=>
     clear cZ dF aH aD aG aE aF aB;obtain⟨q,jT,hq,rfl,aH,aD,aG,aE,aF,aB,cZ,dF⟩:=hrel;by_cases hltq:q<4
     ·
      have jU:decide ((q:Int)<4)=true:=decide_eq_true (by omega);have f20:=Bk.row64 (n:=20) (aB) ((Cx (El hp n m) q).row);go_wp2_with fail;clear f20;refine (Pe (Be q (Fw p n m)) (Cx (El hp n m) q) wr).mono ?_;rintro e iT ⟨rfl,dG⟩;have iU:=C0 cZ dG cZ.size;have iV:=Nat.le_trans dF dG.size;have dQ:=aH.below dG aH.lt;have dS:=aD.below dG aD.lt;have dT:=aG.below dG aG.lt;have dU:=aE.below dG aE.lt;have dW:=aF.below dG aF.lt;have cV:=aB.below dG aB.lt;clear dG cZ dF aH aD aG aE aF aB;obtain⟨dX,aM⟩:∃z,z=C9 iT ⟨aC+1,0,none⟩ (C7 (Gm (Be q (Fw p n m))).row):=⟨_,rfl⟩;have eX:Bk dX (aC+1) 140 (C7 (Gm (Be q (Fw p n m))).row):=by rw[aM];exact Bk.put64 (cV) ((Cx (El hp n m) q).row) ((Fc (Be q (Fw p n m))).row)
      have eY:Bk dX (w.heap.size) 140 (C7 p.row):=by rw[aM];exact dQ.putFar (p:=⟨aC+1,0,none⟩) (by show w.heap.size≠aC+1;omega) _
      have eZ:Bk dX (w.heap.size+1) 23 (c8 n):=by rw[aM];exact dS.putFar (p:=⟨aC+1,0,none⟩) (by show w.heap.size+1≠aC+1;omega) _
      have fB:Bk dX (w.heap.size+2) 140 (C7 (J8 20)):=by rw[aM];exact dT.putFar (p:=⟨aC+1,0,none⟩) (by show w.heap.size+2≠aC+1;omega) _
      have fC:Bk dX (aT) 138 (C7 F0):=by rw[aM];exact dU.putFar (p:=⟨aC+1,0,none⟩) (by show aT≠aC+1;omega) _
      have fD:Bk dX (aC) 177 (C7 (Pl (J1 p F0))):=by rw[aM];exact dW.putFar (p:=⟨aC+1,0,none⟩) (by show aC≠aC+1;omega) _
      have iC:Below w.heap.size w dX:=by rw[aM];exact C1 iU (by show w.heap.size≤aC+1;omega) _
      have fE:E8 iT ⟨aC+1,0,none⟩ 20=true:=Bk.can64 (cV) ((Cx (El hp n m) q).row);have aP:(Gm (Be q (Fw p n m))).row.length=20:=(Fc (Be q (Fw p n m))).row;go_wp2_with fail;rw[←aM];clear fE aP;have iD:w.heap.size+3≤dX.heap.size:=by have hz:=iV;rw[aM];first | (simp;omega) | (simp[World.setCell];omega)
      clear aM dQ dS dT dU dW cV iU iV;go_roundw;case rel=>exact ⟨q+1,by omega,by omega,by go_num,eY,eZ,fB,fC,fD,eX,iC,iD⟩
      case measure=>simp[intOf];omega
     ·
      obtain rfl:q=4:=by omega
      have e4:((4:Nat):Int)=4:=rfl;rw[e4];clear e4;go_wp2_with fail;have iE:Below wr.heap.size wr wr.drew:=(Below.refl _ _).drew;refine F2 (fun W=>Bk W (w.heap.size+1) 23 (c8 n)∧Bk W (aT) 138 (C7 F0)) (by kernel_rfl) ?_;refine C6 (A:=?jG) [1,2,6] (by kernel_rfl) (by kernel_rfl) rfl (by kernel_rfl) (by kernel_rfl) ⟨(aD.drew),(aE.drew)⟩ (h:=fun W hW=>?iF) (hr:=?jH);case iF=>
       have f1:=Bk.row8 (n:=32) (hW.1) (hn);have f6:=Bk.row64 (n:=5) (hW.2) (O7);simp only[pick,List.getElem?_cons_zero,List.getElem?_cons_succ];repeat (go_big_quiet_step (fail))
       refine wpQuiet_nil ?_;rfl
      refine N9 [zv 0 29 (J7 (Be 4 (Fw p n m)).row),zv 3 32 (.int .u8 ((dg n s:Nat):Int)),zv 4 33 (.pointer (some ⟨aC,(dg n s)*20,none⟩)),zv 5 34 (J7 (Q4 (J1 p F0) (dg n s)).row),zv 7 36 (J7 (X6 (Be 4 (Fw p n m)) (Q4 (J1 p F0) (dg n s)) F0).row)] (by kernel_rfl) (fun W hW=>⟨(aD.drew.below hW aD.drew.lt),(aE.drew.below hW aE.drew.lt)⟩) ?fF ?fG ?fH;case fF=>exact (List.forall_mem_cons.2 ⟨H7 _ _ _,(List.forall_mem_cons.2 ⟨H7 _ _ _,(List.forall_mem_cons.2 ⟨H7 _ _ _,(List.forall_mem_cons.2 ⟨H7 _ _ _,(List.forall_mem_cons.2 ⟨H7 _ _ _,(fun _ h=>by cases h)⟩)⟩)⟩)⟩)⟩)
      case fG=>
       refine (List.forall_mem_cons.2 ⟨?gH,(List.forall_mem_cons.2 ⟨?gI,(List.forall_mem_cons.2 ⟨?gJ,(List.forall_mem_cons.2 ⟨?gK,(List.forall_mem_cons.2 ⟨?gL,(fun _ h=>by cases h)⟩)⟩)⟩)⟩)⟩);case gH=>
        intro o ho us W hW hp Q' hQ';obtain rfl:=Option.some.inj ho;clear hp ho;rw[C2]at hQ' ⊢;dsimp only[E4,E0,List.foldl,zv,za]at hQ' ⊢;simp only[List.set_cons_succ,List.set_cons_zero];have f0:=Bk.row64 (n:=20) (aB.drew.below hW aB.drew.lt) ((Cx (El hp n m) 4).row);go_wp2_with fail;exact C5 (hQ' _ _ (Below.refl _ _) rfl (fun h=>by cases h)) (by kernel_rfl)
       case gI=>intro o ho us W hW hp Q' hQ';obtain rfl:=Option.some.inj ho;clear hp ho;rw[C2]at hQ' ⊢;dsimp only[E4,E0,List.foldl,zv,za]at hQ' ⊢;simp only[List.set_cons_succ,List.set_cons_zero];go_wp2_with fail;refine (Tw n hn s (by omega) W).mono ?_;rintro e W2 ⟨rfl,b2⟩;go_wp2_with fail;exact C5 (hQ' _ _ b2 rfl (fun h=>by cases h)) (by kernel_rfl)
       case gJ=>intro o ho us W hW hp Q' hQ';obtain rfl:=Option.some.inj ho;have dY:us 3=(.int .u8 ((dg n s:Nat):Int)):=hp 1 _ rfl (by kernel_rfl);clear hp ho;rw[C2]at hQ' ⊢;dsimp only[E4,E0,List.foldl,zv,za]at hQ' ⊢;simp only[List.set_cons_succ,List.set_cons_zero];rw[dY]at hQ' ⊢;clear dY;go_wp2_with fail;exact C5 (hQ' _ _ (Below.refl _ _) rfl (fun h=>by cases h)) (by kernel_rfl)
       case gK=>intro o ho us W hW hp Q' hQ';obtain rfl:=Option.some.inj ho;have gM:us 4=(.pointer (some ⟨aC,(dg n s)*20,none⟩)):=hp 2 _ rfl (by kernel_rfl);clear hp ho;rw[C2]at hQ' ⊢;dsimp only[E4,E0,List.foldl,zv,za]at hQ' ⊢;simp only[List.set_cons_succ,List.set_cons_zero];rw[gM]at hQ' ⊢;clear gM;have f5:=show E5 _ ⟨_,(dg n s)*20,none⟩ 20=some (C7 (Q4 (J1 p F0) (dg n s)).row) from Bk.plAt (i:=(dg n s)) (aF.drew.below hW aF.drew.lt) (Y7 hp F0) (by simp;try omega);go_wp2_with fail;exact C5 (hQ' _ _ (Below.refl _ _) rfl (fun h=>by cases h)) (by kernel_rfl)
       case gL=>intro o ho us W hW hp Q' hQ';obtain rfl:=Option.some.inj ho;have gN:us 0=(J7 (Be 4 (Fw p n m)).row):=hp 0 _ rfl (by kernel_rfl);have dY:us 3=(.int .u8 ((dg n s:Nat):Int)):=hp 1 _ rfl (by kernel_rfl);have gO:us 5=(J7 (Q4 (J1 p F0) (dg n s)).row):=hp 3 _ rfl (by kernel_rfl);clear hp ho;rw[C2]at hQ' ⊢;dsimp only[E4,E0,List.foldl,zv,za]at hQ' ⊢;simp only[List.set_cons_succ,List.set_cons_zero];rw[gN,dY,gO]at hQ' ⊢;clear gN dY gO;go_wp2_with fail;refine (Qw (Be 4 (Fw p n m)) (Q4 (J1 p F0) (dg n s)) F0 (Cx (El hp n m) 4) ((Y7 hp F0).at (dg n s)) O7 W).mono ?_;rintro e W2 ⟨rfl,b2⟩;go_wp2_with fail;exact C5 (hQ' _ _ b2 rfl (fun h=>by cases h)) (by kernel_rfl)
      case fH=>
      intro us iW iX hg eO gY;have gN:us 0=(J7 (Be 4 (Fw p n m)).row):=hg _ (List.mem_of_getElem? (i:=0) rfl);have dY:us 3=(.int .u8 ((dg n s:Nat):Int)):=hg _ (List.mem_of_getElem? (i:=1) rfl);have gM:us 4=(.pointer (some ⟨aC,(dg n s)*20,none⟩)):=hg _ (List.mem_of_getElem? (i:=2) rfl);have gO:us 5=(J7 (Q4 (J1 p F0) (dg n s)).row):=hg _ (List.mem_of_getElem? (i:=3) rfl);have iY:us 7=(J7 (X6 (Be 4 (Fw p n m)) (Q4 (J1 p F0) (dg n s)) F0).row):=hg _ (List.mem_of_getElem? (i:=4) rfl);have dI:=C0 iE iX iE.size;rw[C2];dsimp only[E0,List.foldl,zv,za];simp only[List.set_cons_succ,List.set_cons_zero];rw[gN,dY,gM,gO,iY];clear hg eO gY gN dY gM gO iY iX iE;have iZ:=C0 cZ dI cZ.size;have jA:=Nat.le_trans dF dI.size;have dZ:=aH.below dI aH.lt;have eC:=aD.below dI aD.lt;have eD:=aG.below dI aG.lt;have eE:=aE.below dI aE.lt;have eF:=aF.below dI aF.lt;have cW:=aB.below dI aB.lt;clear dI cZ dF aH aD aG aE aF aB;obtain⟨eG,aN⟩:∃z,z=C9 iW ⟨aC+1,0,none⟩ (C7 (X6 (Be 4 (Fw p n m)) (Q4 (J1 p F0) (dg n s)) F0).row):=⟨_,rfl⟩;have gP:Bk eG (aC+1) 140 (C7 (X6 (Be 4 (Fw p n m)) (Q4 (J1 p F0) (dg n s)) F0).row):=by rw[aN];exact Bk.put64 (cW) ((Cx (El hp n m) 4).row) ((Db (Be 4 (Fw p n m)) (Q4 (J1 p F0) (dg n s)) F0).row)
      have gQ:Bk eG (w.heap.size) 140 (C7 p.row):=by rw[aN];exact dZ.putFar (p:=⟨aC+1,0,none⟩) (by show w.heap.size≠aC+1;omega) _
      have eH:Bk eG (w.heap.size+1) 23 (c8 n):=by rw[aN];exact eC.putFar (p:=⟨aC+1,0,none⟩) (by show w.heap.size+1≠aC+1;omega) _
      have gR:Bk eG (w.heap.size+2) 140 (C7 (J8 20)):=by rw[aN];exact eD.putFar (p:=⟨aC+1,0,none⟩) (by show w.heap.size+2≠aC+1;omega) _
      have eI:Bk eG (aT) 138 (C7 F0):=by rw[aN];exact eE.putFar (p:=⟨aC+1,0,none⟩) (by show aT≠aC+1;omega) _
      have gS:Bk eG (aC) 177 (C7 (Pl (J1 p F0))):=by rw[aN];exact eF.putFar (p:=⟨aC+1,0,none⟩) (by show aC≠aC+1;omega) _
      have jI:Below w.heap.size w eG:=by rw[aN];exact C1 iZ (by show w.heap.size≤aC+1;omega) _
      have fI:E8 iW ⟨aC+1,0,none⟩ 20=true:=Bk.can64 (cW) ((Cx (El hp n m) 4).row);have fJ:(X6 (Be 4 (Fw p n m)) (Q4 (J1 p F0) (dg n s)) F0).row.length=20:=(Db (Be 4 (Fw p n m)) (Q4 (J1 p F0) (dg n s)) F0).row;refine C4 8 (by kernel_rfl) (by rfl) (by rfl) (fun Q' hQ'=>?_);dsimp only[E4];go_wp2_with fail;rw[←aN];refine hQ' _ _ ⟨eH,eI⟩ ?_;clear hQ' fI fJ;have jJ:w.heap.size+3≤eG.heap.size:=by have hz:=jA;rw[aN];simp;omega
      clear aN iZ jA dZ eC eD eE eF cW;refine I9 (by kernel_rfl) ?_;go_wp2_with fail;go_roundw;case rel=>exact ⟨m+1,by omega,by omega,by rw[←ES.out];all_goals (simp<;>omega),gQ,eH,gR,eI,gS,(by rw[HM.out];exact gP),jI,jJ⟩
      case measure=>have:=ES.out;simp[intOf]<;>omega
   ·
    obtain rfl:m=64:=by omega
    obtain⟨eJ,aO⟩:∃z,z=C9 wr ⟨w.heap.size+2,0,none⟩ (C7 (Fw p n 64).row):=⟨_,rfl⟩;have fK:Bk eJ (w.heap.size+2) 140 (C7 (Fw p n 64).row):=by rw[aO];exact Bk.put64 (aG) ((show (J8 20).length=20 from by simp)) ((El hp n 64).row)
    have iG:Bk eJ (w.heap.size) 140 (C7 p.row):=by rw[aO];exact aH.putFar (p:=⟨w.heap.size+2,0,none⟩) (by show w.heap.size≠w.heap.size+2;omega) _
    have iH:Bk eJ (w.heap.size+1) 23 (c8 n):=by rw[aO];exact aD.putFar (p:=⟨w.heap.size+2,0,none⟩) (by show w.heap.size+1≠w.heap.size+2;omega) _
    have iI:Bk eJ (aT) 138 (C7 F0):=by rw[aO];exact aE.putFar (p:=⟨w.heap.size+2,0,none⟩) (by show aT≠w.heap.size+2;omega) _
    have iJ:Bk eJ (aC) 177 (C7 (Pl (J1 p F0))):=by rw[aO];exact aF.putFar (p:=⟨w.heap.size+2,0,none⟩) (by show aC≠w.heap.size+2;omega) _
    have iK:Bk eJ (aC+1) 140 (C7 (Fw p n 64).row):=by rw[aO];exact aB.putFar (p:=⟨w.heap.size+2,0,none⟩) (by show aC+1≠w.heap.size+2;omega) _
    have iL:Below w.heap.size w eJ:=by rw[aO];exact C1 cZ (by show w.heap.size≤w.heap.size+2;omega) _
    have jK:=Bk.row64 (n:=20) (aB) ((El hp n 64).row);have fL:E8 wr ⟨w.heap.size+2,0,none⟩ 20=true:=Bk.can64 (aG) ((show (J8 20).length=20 from by simp));have aP:(Fw p n 64).row.length=20:=(El hp n 64).row;go_wp2_with fail;rw[←aO];clear jK fL aP;have jL:w.heap.size+3≤eJ.heap.size:=by have hz:=dF;rw[aO];first | (simp;omega) | (simp[World.setCell];omega)
    clear aO dF;have fM:(Fw p n 64).row.length=20:=(El hp n 64).row;refine bodyPost_ret (E9 rfl _ _ _ _ _ _ rfl fK Hc rfl (by simp[Rj,fM])) rfl ⟨by rw[HZ.out];rfl,iL⟩
 case true=>
  have HZ:=Lib.hid (A9d n hz);clear hz;have jM:=Bk.row8 (n:=32) (aU) (hn);go_wp2_with fail;clear jM;refine (B8y n hn W2).mono ?_;rintro e Vw ⟨rfl,fQ⟩;have jB:=C0 B2 fQ B2.size;have z32:=Nat.le_trans z2 fQ.size;have eK:=bI.below fQ bI.lt;have eL:=aU.below fQ aU.lt;have cX:=bJ.below fQ bJ.lt;clear fQ B2 z2 bI aU bJ;obtain⟨gT,bF⟩:∃z,z=C9 Vw ⟨w.heap.size+2,0,none⟩ (C7 (Nd n).row):=⟨_,rfl⟩;have fN:Bk gT (w.heap.size+2) 140 (C7 (Nd n).row):=by rw[bF];exact Bk.put64 (cX) ((show (J8 20).length=20 from by simp)) ((Qz n).row)
  have iM:Bk gT (w.heap.size) 140 (C7 p.row):=by rw[bF];exact eK.putFar (p:=⟨w.heap.size+2,0,none⟩) (by show w.heap.size≠w.heap.size+2;omega) _
  have iN:Bk gT (w.heap.size+1) 23 (c8 n):=by rw[bF];exact eL.putFar (p:=⟨w.heap.size+2,0,none⟩) (by show w.heap.size+1≠w.heap.size+2;omega) _
  have iO:Below w.heap.size w gT:=by rw[bF];exact C1 jB (by show w.heap.size≤w.heap.size+2;omega) _
  have fO:E8 Vw ⟨w.heap.size+2,0,none⟩ 20=true:=Bk.can64 (cX) ((show (J8 20).length=20 from by simp));have aP:(Nd n).row.length=20:=(Qz n).row;go_wp2_with fail;rw[←bF];clear fO aP;have jN:w.heap.size+3≤gT.heap.size:=by have hz:=z32;rw[bF];first | (simp;omega) | (simp[World.setCell];omega)
  clear bF eK eL cX jB z32;have fM:(Nd n).row.length=20:=(Qz n).row;refine bodyPost_ret (E9 rfl _ _ _ _ _ _ rfl fN Hc rfl (by simp[Rj,fM])) rfl ⟨by rw[HZ.out];rfl,iO⟩
section
def Ig (c e:UInt8):List UInt8:=c::e::z8 30
attribute [simp, go_sem] Fr
@[simp, go_sem] theorem Na (c e : UInt8) : (Ig c e).length = 32 := by simp [Ig]
theorem C0l (c e:UInt8) (w:World):(Instr.build 23 #[(0,v8 c),(1,v8 e)]).run Tryz.prog w=.ok (A8 (Ig c e)) w:=by kernel_rfl
attribute [irreducible] Ig
open Classical in
noncomputable def Jo (w:World) (raw:Result Next) (v u:Value):Result Next:=if h:∃p:UInt8×UInt8,v=v8 p.1∧u=v8 p.2 then .ok (.value (A8 (Ig h.choose.1 h.choose.2))) w else raw
theorem Oh (w:World) (raw:Result Next) (c e:UInt8):Jo w raw (v8 c) (v8 e)=.ok (.value (A8 (Ig c e))) w:=by
 have h:∃p:UInt8×UInt8,v8 c=v8 p.1∧v8 e=v8 p.2:=⟨(c,e),rfl,rfl⟩;unfold Jo;rw[dif_pos h,←B7c h.choose_spec.1,←B7c h.choose_spec.2]
@[go_sem] theorem D3p (w : World) (raw : Result Next) (c e : UInt8) : Jo w raw (.int .u8 (n8 c)) (.int .u8 (n8 e)) = .ok (.value (A8 (Ig c e))) w := Oh w raw c e
@[go_sem] theorem D4t (w : World) (raw : Result Next) (c : UInt8) : Jo w raw (.int .u8 (n8 c)) (.int .u8 77) = .ok (.value (A8 (Ig c 77))) w := Oh w raw c 77
@[go_sem] theorem D6f (w : World) (raw : Result Next) (c : UInt8) : Jo w raw (.int .u8 (n8 c)) (.int .u8 3) = .ok (.value (A8 (Ig c 3))) w := Oh w raw c 3
@[go_sem ↓ high] theorem D3w (w : World) (ρ : Operand → Value) (dst : Option Tmp) (ty : TypeId) (pos : String) (after : Array Edge) (guard : Option (Nat × Bool)) (x y : Operand) :
 (execOp ρ { dst,op:=.build 23 #[(0,x),(1,y)],type:=ty,pos,after,guard }).run Tryz.prog w=Jo w (M6 Tryz.prog ρ { dst,op:=.build 23 #[(0,x),(1,y)],type:=ty,pos,after,guard } w) (ρ x) (ρ y):=by
 unfold Jo;split
 ·rename_i h
  have h1:=h.choose_spec;generalize h.choose=c at h1;refine N7 w ρ dst ty pos after guard _ _ _ ?_;simp only[List.map_toArray,List.map_cons,List.map_nil,h1.1,h1.2];exact C0l c.1 c.2 w
 ·rfl
def Ob (p:Pn):Bool:=C8 (Zt 3 p)==h1 1
set_option maxRecDepth 100000
theorem B5v (p:Pn) (hp:p.Ok) (w:World):Calls Tryz.prog 114 #[J7 p.row] w fun e w'=>e=.returned (.bool (Ob p))∧Below w.heap.size w w':=by
 rw[Pn.seg];have h3:(Zt 3 p).Ok:=Mk _ _;exact T3 (g:=gPt) 100 (p.av hp) [dP (B5q p p hp hp) (Mk _ _),dP (B5q (B1w p p) (B1w p p) (Mk _ _) (Mk _ _)) (Mk _ _),dP (B5q (Zt 2 p) (Zt 2 p) (Mk _ _) (Mk _ _)) h3,dH (B8l (Zt 3 p) h3) (K9 _),dEq (C8 (Zt 3 p)) (h1 1) (K9 _) (Fr _) rfl] Af Tryz.func114 (by kernel_rfl)
end
theorem Xa {P:Program} {t e:TypeId} {n:Nat} (hu:P.underlying t=some (.array n e)) (w:World) (g o k c:Nat) (hk:n≤k):(Instr.arrayAt t (.slice (some ⟨g,o,none⟩) k c)).run P w=.ok (.pointer (some ⟨g,o,none⟩)) w:=by
 have aA:¬ k<n:=by omega
 simp[Instr.arrayAt,run_underlying hu,aA]
@[go_sem] theorem D5z (w : World) (g o k c : Nat) (hk : 4 ≤ k) : (Instr.arrayAt 182 (.slice (some ⟨g, o, none⟩) k c)).run Tryz.prog w = .ok (.pointer (some ⟨g, o, none⟩)) w := Xa Tryz.underlying182 w g o k c hk
@[go_sem] theorem D5a (w : World) (g o k c : Nat) (hk : 32 ≤ k) : (Instr.arrayAt 23 (.slice (some ⟨g, o, none⟩) k c)).run Tryz.prog w = .ok (.pointer (some ⟨g, o, none⟩)) w := Xa Tryz.underlying23 w g o k c hk
def Sn (b:List UInt8):List UInt64:=wl b 4 32
@[simp, go_sem] theorem Cs (b : List UInt8) : (Sn b).length = 4 := by unfold Sn; simp
def Px (b:List UInt8):Bool:=Z4 (Sn b)==Sn b
def Ad (b:List UInt8):List UInt64:=if Px b then Sn b else J8 4
theorem Ej (b:List UInt8):(Ad b).length=4:=by unfold Ad;split<;>simp
theorem C2f {b:List UInt8} (h:Px b=true):Ad b=Sn b:=if_pos h
theorem C3r {b:List UInt8} (h:Px b=false):Ad b=J8 4:=if_neg (by rw[h];decide)
theorem C7v (b:List UInt8) (hb:b.length=32) (w:World):Calls Tryz.prog 115 #[A8 b] w fun e w'=>e=.returned (.tuple #[J7 (Ad b),.bool (Px b)])∧Below w.heap.size w w':=by
 have cT:=Dy (Cs b);obtain⟨W0,bS⟩:∃z,z=((w.alloc (Obj.cells (c8 b).toArray 23)).alloc (Obj.cells (C7 (J8 4)).toArray 184)):=⟨_,rfl⟩;have hL:W0=Q5 w [(23,(c8 b)),(184,(C7 (J8 4)))]:=bS;have B0:Below w.heap.size w W0:=by rw[hL];exact J9 _ _
 have aE:Bk W0 (w.heap.size) 23 (c8 b):=by rw[hL];exact F9 _ w 0 _ _ rfl
 have aN:Bk W0 (w.heap.size+1) 184 (C7 (J8 4)):=by rw[hL];exact F9 _ w 1 _ _ rfl
 have z0:w.heap.size+2≤W0.heap.size:=by rw[hL,H9];simp
 have cN:W0.heap.size=w.heap.size+2:=by rw[hL,H9];rfl
 clear hL;go_enter Tryz.func115,Tryz.ntmps115;go_wp2_with fail;rw[←bS];clear bS cN;refine (A5e b 32 4 w.heap.size _ hb rfl (by decide) W0 aE).mono ?_;rintro e W1 ⟨p3,rfl,aD,bR,b2⟩;have bI:w.heap.size<p3:=Nat.lt_of_lt_of_le aE.lt bR;have bJ:w.heap.size+1<p3:=Nat.lt_of_lt_of_le aN.lt bR;have cI:w.heap.size+2≤p3:=Nat.le_trans z0 bR;clear bR;have B1:=C0 B0 b2 B0.size;have z1:=Nat.le_trans z0 b2.size;have aV:=aE.below b2 aE.lt;have aW:=aN.below b2 aN.lt;clear b2 B0 z0 aE aN;have aD:Bk W1 (p3) 117 (C7 (Sn b)):=aD;obtain⟨V5,aO⟩:∃z,z=W1.alloc (Obj.cells (C7 (J8 4)).toArray 182):=⟨_,rfl⟩;have bF:W1.heap.size=W1.heap.size:=rfl;have aF:Bk V5 (W1.heap.size) 182 (C7 (J8 4)):=by rw[aO,←bF];exact Bk.new W1 _ _
 have aQ:Bk V5 (w.heap.size) 23 (c8 b):=by rw[aO];exact aV.alloc _
 have aR:Bk V5 (w.heap.size+1) 184 (C7 (J8 4)):=by rw[aO];exact aW.alloc _
 have aS:Bk V5 (p3) 117 (C7 (Sn b)):=by rw[aO];exact aD.alloc _
 have cJ:Below w.heap.size w V5:=by rw[aO];exact B1.alloc B1.size _
 have aG:w.heap.size<W1.heap.size:=by rw[←bF];exact aV.lt
 have aH:w.heap.size+1<W1.heap.size:=by rw[←bF];exact aW.lt
 have aI:p3<W1.heap.size:=by rw[←bF];exact aD.lt
 have bK:w.heap.size+2≤W1.heap.size:=by rw[←bF];exact Nat.le_trans z1 (Nat.le_refl _)
 clear bF;obtain⟨V6,aT⟩:∃z,z=C9 V5 ⟨W1.heap.size,0,none⟩ (C7 (Sn b)):=⟨_,rfl⟩;have aA:Bk V6 (W1.heap.size) 182 (C7 (Sn b)):=by rw[aT];exact Bk.put64 (aF) ((show (J8 4).length=4 from by simp)) ((Cs b))
 have aJ:Bk V6 (w.heap.size) 23 (c8 b):=by rw[aT];exact aQ.putFar (p:=⟨W1.heap.size,0,none⟩) (by show w.heap.size≠W1.heap.size;omega) _
 have aK:Bk V6 (w.heap.size+1) 184 (C7 (J8 4)):=by rw[aT];exact aR.putFar (p:=⟨W1.heap.size,0,none⟩) (by show w.heap.size+1≠W1.heap.size;omega) _
 have aL:Bk V6 (p3) 117 (C7 (Sn b)):=by rw[aT];exact aS.putFar (p:=⟨W1.heap.size,0,none⟩) (by show p3≠W1.heap.size;omega) _
 have bT:Below w.heap.size w V6:=by rw[aT];exact C1 cJ (by show w.heap.size≤W1.heap.size;omega) _
 have f4:=Bk.row64 (n:=4) (aD) ((Cs b));have aU:E8 V5 ⟨W1.heap.size,0,none⟩ 4=true:=Bk.can64 (aF) ((show (J8 4).length=4 from by simp));rw[aO]at aU;have aM:(Sn b).length=4:=(Cs b);go_wp2_with fail;rw[←aO,←aT];clear f4 aU aM;obtain⟨p7,bU⟩:∃g,g=W1.heap.size:=⟨_,rfl⟩;rw[←bU]at aA aG aH aI bK;try rw[←bU]
 have cK:w.heap.size+2≤V6.heap.size:=by have hz:=z1;rw[aT,aO];first | (simp;omega) | (simp[World.setCell];omega)
 clear aO aT bU aV aW aD B1 z1 aQ aR aS aF cJ;have S8:Below V6.heap.size V6 V6.drew:=(Below.refl _ _).drew;refine F2 (fun W=>Bk W (p7) 182 (C7 (Sn b))) (by kernel_rfl) ?_;refine C6 (A:=?cU) [0,2] (by kernel_rfl) (by kernel_rfl) rfl (by kernel_rfl) (by kernel_rfl) (aA.drew) (h:=fun W hW=>?cO) (hr:=?cV);case cO=>
  have f0:=Bk.row64 (n:=4) (hW) ((Cs b));simp only[pick,List.getElem?_cons_zero,List.getElem?_cons_succ];repeat (go_big_quiet_step (fail))
  refine wpQuiet_nil ?_;rfl
 refine N9 [zv 1 10 (J7 (Z4 (Sn b))),zv 3 12 (.bool (!(Z4 (Sn b)==Sn b)))] (by kernel_rfl) (fun W hW=>(aA.drew.below hW aA.drew.lt)) ?bL ?bM ?bN;case bL=>exact (List.forall_mem_cons.2 ⟨H7 _ _ _,(List.forall_mem_cons.2 ⟨H7 _ _ _,(fun _ h=>by cases h)⟩)⟩)
 case bM=>
  refine (List.forall_mem_cons.2 ⟨?bV,(List.forall_mem_cons.2 ⟨?bX,(fun _ h=>by cases h)⟩)⟩);case bV=>
   intro o ho us W hW hp Q' hQ';obtain rfl:=Option.some.inj ho;clear hp ho;rw[C2]at hQ' ⊢;dsimp only[E4,E0,List.foldl,zv,za]at hQ' ⊢;simp only[List.set_cons_succ,List.set_cons_zero];go_wp2_with fail;refine (Ps (Sn b) (Cs b) W).mono ?_;rintro e W2 ⟨rfl,b2⟩;go_wp2_with fail;exact C5 (hQ' _ _ b2 rfl (fun h=>by cases h)) (by kernel_rfl)
  case bX=>intro o ho us W hW hp Q' hQ';obtain rfl:=Option.some.inj ho;have bO:us 1=(J7 (Z4 (Sn b))):=hp 0 _ rfl (by kernel_rfl);clear hp ho;rw[C2]at hQ' ⊢;dsimp only[E4,E0,List.foldl,zv,za]at hQ' ⊢;simp only[List.set_cons_succ,List.set_cons_zero];rw[bO]at hQ' ⊢;clear bO;go_wp2_with fail;exact C5 (hQ' _ _ (Below.refl _ _) rfl (fun h=>by cases h)) (by kernel_rfl)
 case bN=>
 intro us W9 cL hg bY cP;have bO:us 1=(J7 (Z4 (Sn b))):=hg _ (List.mem_of_getElem? (i:=0) rfl);have cM:us 3=(.bool (!(Z4 (Sn b)==Sn b))):=hg _ (List.mem_of_getElem? (i:=1) rfl);have aX:=C0 S8 cL S8.size;rw[C2];dsimp only[E0,List.foldl,zv,za];simp only[List.set_cons_succ,List.set_cons_zero];rw[bO,cM];clear hg bY cP bO cM cL S8;have B9:=C0 bT aX bT.size;have z9:=Nat.le_trans cK aX.size;have bP:=aJ.below aX aJ.lt;have aP:=aK.below aX aK.lt;have bQ:=aL.below aX aL.lt;have aY:=aA.below aX aA.lt;clear aX bT cK aJ aK aL aA;refine I9 (by kernel_rfl) ?_;cases hz:(Z4 (Sn b)==Sn b);case false=>
  rw[Bool.not_false];have HE:=Lib.hid (C3r hz);have HB:Hid (Px b=false):=Lib.hid hz;clear hz;obtain⟨bG,aB⟩:∃z,z=C9 W9 ⟨w.heap.size+1,0,none⟩ (C7 (J8 4)):=⟨_,rfl⟩;have aZ:Bk bG (w.heap.size+1) 184 (C7 (J8 4)):=by rw[aB];exact Bk.put64 (aP) ((show (J8 4).length=4 from by simp)) ((show (J8 4).length=4 from by simp))
  have bZ:Bk bG (w.heap.size) 23 (c8 b):=by rw[aB];exact bP.putFar (p:=⟨w.heap.size+1,0,none⟩) (by show w.heap.size≠w.heap.size+1;omega) _
  have cB:Bk bG (p3) 117 (C7 (Sn b)):=by rw[aB];exact bQ.putFar (p:=⟨w.heap.size+1,0,none⟩) (by show p3≠w.heap.size+1;omega) _
  have cC:Bk bG (p7) 182 (C7 (Sn b)):=by rw[aB];exact aY.putFar (p:=⟨w.heap.size+1,0,none⟩) (by show p7≠w.heap.size+1;omega) _
  have cD:Below w.heap.size w bG:=by rw[aB];exact C1 B9 (by show w.heap.size≤w.heap.size+1;omega) _
  have bB:E8 W9 ⟨w.heap.size+1,0,none⟩ 4=true:=Bk.can64 (aP) ((show (J8 4).length=4 from by simp));have aM:(J8 4).length=4:=(show (J8 4).length=4 from by simp);go_wp2_with fail;rw[←aB];clear bB aM;have cQ:w.heap.size+2≤bG.heap.size:=by have hz:=z9;rw[aB];first | (simp;omega) | (simp[World.setCell];omega)
  clear aB z9;have bC:(J8 4).length=4:=(show (J8 4).length=4 from by simp);refine bodyPost_ret (v:=.tuple #[J7 (J8 4),.bool false]) ?_ rfl ⟨?_,cD⟩
  ·refine P9 rfl ?_ ?_
   ·exact M5.row aZ rfl _ Dt rfl (by simp[He,bC])
   ·exact M5.tmp rfl
  ·rw[HE.out,HB.out]
 case true=>
  rw[Bool.not_true];have HE:=Lib.hid (C2f hz);have HB:Hid (Px b=true):=Lib.hid hz;clear hz;obtain⟨bH,aC⟩:∃z,z=C9 W9 ⟨w.heap.size+1,0,none⟩ (C7 (Sn b)):=⟨_,rfl⟩;have bD:Bk bH (w.heap.size+1) 184 (C7 (Sn b)):=by rw[aC];exact Bk.put64 (aP) ((show (J8 4).length=4 from by simp)) ((Cs b))
  have cE:Bk bH (w.heap.size) 23 (c8 b):=by rw[aC];exact bP.putFar (p:=⟨w.heap.size+1,0,none⟩) (by show w.heap.size≠w.heap.size+1;omega) _
  have cF:Bk bH (p3) 117 (C7 (Sn b)):=by rw[aC];exact bQ.putFar (p:=⟨w.heap.size+1,0,none⟩) (by show p3≠w.heap.size+1;omega) _
  have cG:Bk bH (p7) 182 (C7 (Sn b)):=by rw[aC];exact aY.putFar (p:=⟨w.heap.size+1,0,none⟩) (by show p7≠w.heap.size+1;omega) _
  have cH:Below w.heap.size w bH:=by rw[aC];exact C1 B9 (by show w.heap.size≤w.heap.size+1;omega) _
  have cR:=Bk.row64 (n:=4) (aY) ((Cs b));have bE:E8 W9 ⟨w.heap.size+1,0,none⟩ 4=true:=Bk.can64 (aP) ((show (J8 4).length=4 from by simp));have aM:(Sn b).length=4:=(Cs b);go_wp2_with fail;rw[←aC];clear cR bE aM;have cS:w.heap.size+2≤bH.heap.size:=by have hz:=z9;rw[aC];first | (simp;omega) | (simp[World.setCell];omega)
  clear aC z9;have bC:(Sn b).length=4:=(Cs b);refine bodyPost_ret (v:=.tuple #[J7 (Sn b),.bool true]) ?_ rfl ⟨?_,cH⟩
  ·refine P9 rfl ?_ ?_
   ·exact M5.row bD rfl _ Dt rfl (by simp[He,bC])
   ·exact M5.tmp rfl
  ·rw[HE.out,HB.out]
def mT (x y t c:UInt64):UInt64:=Wy (Wy (x*y) t 0) c 0
def mC (x y t c:UInt64):UInt64:=B2x x y+Yc (x*y) t 0+Yc (Wy (x*y) t 0) c 0
def mIn (x:UInt64) (b:List UInt64) (i:Nat) (t:List UInt64):Nat→List UInt64×UInt64
 | 0=>(t,0)
 | j+1=>((mIn x b i t j).1.set (i+j) (mT x (J6 b j) (J6 (mIn x b i t j).1 (i+j)) (mIn x b i t j).2),mC x (J6 b j) (J6 (mIn x b i t j).1 (i+j)) (mIn x b i t j).2)
theorem Mx (x:UInt64) (b:List UInt64) (i:Nat) (t:List UInt64):∀j,(mIn x b i t j).1.length=t.length
 | 0=>rfl
 | j+1=>by show (List.set _ _ _).length=_;rw[List.length_set];exact Mx x b i t j
def A3k (a b:List UInt64):Nat→List UInt64
 | 0=>J8 8
 | i+1=>(mIn (J6 a i) b i (A3k a b i) 4).1.set (i+4) (mIn (J6 a i) b i (A3k a b i) 4).2
theorem Oe (a b:List UInt64):∀i,(A3k a b i).length=8
 | 0=>by show (J8 8).length=8;simp
 | i+1=>by show (List.set _ _ _).length=_;rw[List.length_set,Mx];exact Oe a b i
def Cj (a b:List UInt64):List UInt64:=Qe (A3k a b 4)
theorem B2n (a b:List UInt64):(Cj a b).length=4:=Gf _
theorem C3s (a b:List UInt64) (ha:a.length=4) (hb:b.length=4) (w:World):Calls Tryz.prog 109 #[J7 a,J7 b] w fun e w'=>e=.returned (J7 (Cj a b))∧Below w.heap.size w w':=by
 obtain⟨W0,aA⟩:∃z,z=(((w.alloc (Obj.cells (C7 a).toArray 184)).alloc (Obj.cells (C7 b).toArray 184)).alloc (Obj.cells (C7 (J8 4)).toArray 184)).alloc (Obj.cells (C7 (J8 8)).toArray 155):=⟨_,rfl⟩;have hL:W0=Q5 w [(184,C7 a),(184,C7 b),(184,C7 (J8 4)),(155,C7 (J8 8))]:=aA;have B0:Below w.heap.size w W0:=by rw[hL];exact J9 _ _
 have K0:Bk W0 w.heap.size 184 (C7 a):=by rw[hL];exact F9 _ w 0 _ _ rfl
 have L0:Bk W0 (w.heap.size+1) 184 (C7 b):=by rw[hL];exact F9 _ w 1 _ _ rfl
 have R0:Bk W0 (w.heap.size+2) 184 (C7 (J8 4)):=by rw[hL];exact F9 _ w 2 _ _ rfl
 have D0:Bk W0 (w.heap.size+3) 155 (C7 (A3k a b 0)):=by rw[hL];exact F9 _ w 3 _ _ rfl
 have ra:=K0.row64 ha;rw[aA]at ra;clear hL;go_enter Tryz.func109,Tryz.ntmps109;go_wp2_with fail;rw[←aA];clear aA ra K0;go_loopw [16] (fun x wr=>∃i:Nat,i≤4∧x=.int .i64 (i:Int)∧Bk wr (w.heap.size+1) 184 (C7 b)∧Bk wr (w.heap.size+2) 184 (C7 (J8 4))∧Bk wr (w.heap.size+3) 155 (C7 (A3k a b i))∧Below w.heap.size w wr) (fun x _=>4-(intOf x).toNat)
 case atStart=>exact ⟨0,by omega,rfl,L0,R0,D0,B0⟩
 case round=>
  clear L0 R0 D0 B0;obtain⟨i,hi,rfl,L,R,D,B⟩:=hrel;by_cases hlt:i<4
  ·obtain⟨x,hx⟩:∃x,x=J6 a i:=⟨_,rfl⟩;obtain⟨t,ht⟩:∃t,t=A3k a b i:=⟨_,rfl⟩;have aD:t.length=8:=by rw[ht];exact Oe a b i
   have HN:Hid (A3k a b (i+1)=(mIn x b i t 4).1.set (i+4) (mIn x b i t 4).2):=Lib.hid (by rw[ht,hx];rfl);have aI:decide ((i:Int)<4)=true:=decide_eq_true (by omega);rw[←ht]at D;clear ht;have aE:=Lib.hid aD;clear aD;have D0:Bk wr (w.heap.size+3) 155 (C7 (mIn x b i t 0).1):=D;have rb:=L.row64 hb;have aF:J6 a i=x:=hx.symm;clear hx D;go_wp2_with fail;clear rb aF;go_loopw [22,8] (fun y c wr=>∃j:Nat,j≤4∧y=.int .i64 (j:Int)∧c=.int .u64 (J0 (mIn x b i t j).2)∧Bk wr (w.heap.size+1) 184 (C7 b)∧Bk wr (w.heap.size+2) 184 (C7 (J8 4))∧Bk wr (w.heap.size+3) 155 (C7 (mIn x b i t j).1)∧Below w.heap.size w wr) (fun y _ _=>4-(intOf y).toNat)
   case atStart=>exact ⟨0,by omega,rfl,rfl,L,R,D0,B⟩
   case round=>
    clear L R D0 B;obtain⟨j,hj,rfl,rfl,L,R,D,B⟩:=hrel;by_cases hlj:j<4
    ·obtain⟨u,hu⟩:∃u,u=(mIn x b i t j).1:=⟨_,rfl⟩;obtain⟨c,hc⟩:∃c,c=(mIn x b i t j).2:=⟨_,rfl⟩;obtain⟨q,hq⟩:∃q,q=i+j:=⟨_,rfl⟩;obtain⟨y,hy⟩:∃y,y=J6 b j:=⟨_,rfl⟩;obtain⟨v,hv⟩:∃v,v=J6 u q:=⟨_,rfl⟩;have aC:u.length=8:=by rw[hu,Mx];exact aE.out
     have HI:Hid (mIn x b i t (j+1)=(u.set q (mT x y v c),mC x y v c)):=Lib.hid (by rw[hv,hy,hu,hc,hq];rfl);rw[←hu]at D;rw[←hc];have aJ:(i:Int)+(j:Int)=(q:Int):=by omega
     have aK:q<8:=by omega
     have aL:decide ((j:Int)<4)=true:=decide_eq_true (by omega);have d0:=D.at_ (M2 (l:=u) (i:=q) (by omega));rw[←hv]at d0;have aM:J6 b j=y:=hy.symm;have f0:=D.frozen q;have D3:=D.set_ q (.int .u64 (J0 (mT x y v c)));rw[Dh]at D3;clear hu hc hq hy hv aC;go_wp2_with fail;refine (Wv x y wr).mono ?_;rintro e w2 ⟨rfl,rfl⟩;go_wp2_with fail;go_roundw;case rel=>exact ⟨j+1,by omega,by go_num,by rw[HI.out];rfl,L.far (by show w.heap.size+1≠w.heap.size+3;omega) _,R.far (by show w.heap.size+2≠w.heap.size+3;omega) _,by rw[HI.out];exact D3,B.setCell (by show w.heap.size≤w.heap.size+3;omega) _⟩
     case measure=>simp[intOf];omega
    ·obtain rfl:j=4:=by omega
     have e4:((4:Nat):Int)=4:=rfl;rw[e4];clear e4;obtain⟨u,hu⟩:∃u,u=(mIn x b i t 4).1:=⟨_,rfl⟩;obtain⟨c,hc⟩:∃c,c=(mIn x b i t 4).2:=⟨_,rfl⟩;have aC:u.length=8:=by rw[hu,Mx];exact aE.out
     have HI:Hid (A3k a b (i+1)=u.set (i+4) c):=Lib.hid (by rw[HN.out,hu,hc]);rw[←hu]at D;rw[←hc];have aN:((i:Int)+4).toNat=i+4:=by omega
     have d0:=D.at_ (M2 (l:=u) (i:=i+4) (by omega));have f0:=D.frozen (i+4);have D3:=D.set_ (i+4) (.int .u64 (J0 c));rw[Dh]at D3;clear hu hc aC;go_wp2_with fail;go_roundw;case rel=>exact ⟨i+1,by omega,by go_num,L.far (by show w.heap.size+1≠w.heap.size+3;omega) _,R.far (by show w.heap.size+2≠w.heap.size+3;omega) _,by rw[HI.out];exact D3,B.setCell (by show w.heap.size≤w.heap.size+3;omega) _⟩
     case measure=>simp[intOf];omega
  ·obtain rfl:i=4:=by omega
   have e4:((4:Nat):Int)=4:=rfl;rw[e4];clear e4;obtain⟨ws,aB⟩:∃l,l=A3k a b 4:=⟨_,rfl⟩;have aG:ws.length=8:=by rw[aB];exact Oe a b 4
   have HS:Hid (Cj a b=Qe ws):=Lib.hid (by rw[aB];rfl);rw[←aB]at D;clear aB;go_wp2_with fail;refine (A5h ws 8 (w.heap.size+3) _ aG (by decide) wr D).mono ?_;rintro e w2 ⟨rfl,b2⟩;have R2:=R.below b2 R.lt;have B2:=C0 B b2 B.size;have hl:=Gf ws;have aH:E8 w2 ⟨w.heap.size+2,0,none⟩ 4=true:=R2.can (by simp);go_wp2_with fail;refine bodyPost_ret (E9 rfl _ _ _ _ _ _ rfl (R2.puts (vs:=C7 (Qe ws)) (by simp[hl])) Dt rfl (by simp[He,hl])) rfl ⟨by rw[HS.out];rfl,C1 B2 (by show w.heap.size≤w.heap.size+2;omega) _⟩
theorem D7s:(Tryz.prog.info? 45).map (fun i=>(i.zero,i.size,i.bytes))=some (some (.slice none 0 0),1,24):=by kernel_rfl
theorem L6.one_cells {w:World} {B:Nat} {vs:List Value} {ls:List (List UInt8)} (h2:vs.length=ls.length) (h3:∀(i:Nat) (x:Value) (l:List UInt8),vs[i]?=some x→ls[i]?=some l→By w 0 B x l):∀u∈vs,u.oneCell'=true:=by
 intro u hu;obtain⟨i,hi⟩:=List.getElem?_of_mem hu;have aA:=(List.getElem?_eq_some_iff.1 hi).1;obtain⟨A,c,rfl,_⟩:=(h3 i u _ hi (List.getElem?_eq_getElem (by omega))).open_;rfl
theorem L6.join {w w':World} {v:Value} {vs vs':List Value} {ls ls':List (List UInt8)} (hv:vs.length=ls.length) (hv':vs'.length=ls'.length) (hs:Sl w' 0 w'.heap.size v (vs++vs')) (hb:Below w.heap.size w w')
 (h3:∀(i:Nat) (x:Value) (l:List UInt8),vs[i]?=some x→ls[i]?=some l→By w 0 w.heap.size x l) (h3':∀(i:Nat) (x:Value) (l:List UInt8),vs'[i]?=some x→ls'[i]?=some l→By w 0 w.heap.size x l):L6 w' w'.heap.size v (ls++ls'):=by
 refine ⟨vs++vs',hs,by simp[hv,hv'],fun i x l hx hl=>?_⟩;by_cases hi:i<vs.length
 ·rw[List.getElem?_append_left hi]at hx;rw[List.getElem?_append_left (by omega)]at hl;exact ((h3 i x l hx hl).below hb).more hb.size
 ·rw[List.getElem?_append_right (by omega)]at hx;rw[List.getElem?_append_right (by omega),←hv]at hl;exact ((h3' _ x l hx hl).below hb).more hb.size
theorem C8a (g o n:Nat) (vp:Value) (vs vs':List Value) (w:World) (ha:Sl w 0 w.heap.size (.slice (some ⟨g,o,none⟩) n n) vs) (hp:Sl w 0 w.heap.size vp vs') (honec:∀u∈vs',u.oneCell'=true) (h0:0<vs'.length) (hsz:vs.length+vs'.length≤1000000) :
 Calls Tryz.prog 106 #[vp,.slice (some ⟨g,o,none⟩) n n] w fun e w'=>∃v,e=.returned v∧Sl w' w.heap.size w'.heap.size v (vs++vs')∧Below w.heap.size w w':=by
 obtain⟨A,c,e1,h1,h2,aF⟩:=ha;obtain⟨A',c',rfl,aQ,aR,aA⟩:=hp;injection e1 with e1 e2 e3;subst e1 e2 e3;obtain⟨i0,aG,aH,aI,aJ⟩:=info_parts D7s;have hn:vs'.length≠0:=by omega
 have aB:∀j u,vs[j]?=some u→w.cell? ⟨g,o+j,none⟩=some u:=by
  rcases aF with h | ⟨g',o',e,_,_,hc⟩
  ·intro j u hj;rw[h]at hj;cases hj
  ·injection e with e;injection e with e1 e2;subst e1 e2;exact hc
 rcases aA with h | ⟨g',o',rfl,_,_,hc'⟩
 ·rw[h]at hn;exact absurd rfl hn
 have aS:Hid _:=Lib.hid aB;have aK:Hid _:=Lib.hid hc';have aC:Hid _:=Lib.hid honec;have aL:=Lib.hid aG;have aM:=Lib.hid aH;have aN:=Lib.hid aI;have aO:=Lib.hid aJ;have K1:Hid (some (⟨g,o,none⟩:Addr)=none→vs.length=0∧vs.length=0):=Lib.hid (fun h=>by cases h);have K2:Hid (vs.length=vs.length*1):=Lib.hid (by omega);have K3:Hid (∀b:Addr,some (⟨g,o,none⟩:Addr)=some b→∀j u,vs[j]?=some u→w.cell? (b.add j)=some u):=Lib.hid (fun b hb j u hj=>by injection hb with hb;subst hb;rw[U0];exact aB j u hj);have K4:Hid (vs'.length=vs'.length*1):=Lib.hid (by omega);have K5:Hid (∀j u,vs'[j]?=some u→w.cell? ((⟨g',o',none⟩:Addr).add j)=some u):=Lib.hid (fun j u hj=>by rw[U0];exact hc' j u hj);have K6:Hid (vs.length<vs.length+vs'.length):=Lib.hid (by omega);have K7:Hid (vs.length+vs'.length≤maxLen):=Lib.hid (by simp only[maxLen];omega);have K8:Hid ((vs.length+vs'.length)*24≤140737488355328):=Lib.hid (by omega);clear aB hc' honec aG aH aI aJ aF;go_enter Tryz.func106,Tryz.ntmps106;go_wp2_with (at_builtin;refine wpList_append_grows _ rfl _ _ 152 rfl 45 i0 _ 1 24 Tryz.underlying152 aL.out aM.out aN.out aO.out rfl (by decide) (some ⟨g,o,none⟩) vs.length vs.length vs rfl K1.out K2.out K3.out ⟨g',o',none⟩ vs'.length c' vs' rfl K4.out K5.out aC.out K6.out K7.out K8.out ?_;intro v' w' aD aP);have aE:Below w.heap.size w w':=(Below.refl w.heap.size w).grown aP (Nat.le_refl _) (fun k hk=>by cases hk);go_ret;exact ⟨v',rfl,Sl.of_own aD,aE⟩
theorem A0s (g o n:Nat) (vp:Value) (ls ps:List (List UInt8)) (w:World) (ha:L6 w w.heap.size (.slice (some ⟨g,o,none⟩) n n) ls) (hp:L6 w w.heap.size vp ps) (h0:0<ps.length) (hsz:ls.length+ps.length≤1000000) :
 Calls Tryz.prog 106 #[vp,.slice (some ⟨g,o,none⟩) n n] w fun e w'=>∃v,e=.returned v∧L6 w' w'.heap.size v (ls++ps)∧Below w.heap.size w w':=by
 obtain⟨vs,hs,aC,aD⟩:=ha;obtain⟨aE,aF,aA,aB⟩:=hp;refine (C8a g o n vp vs aE w hs aF (L6.one_cells aA aB) (by omega) (by omega)).mono fun e w' ⟨v,h1,h2,h3⟩=>?_;exact ⟨v,h1,L6.join aC aA (Sl.less h2 (Nat.zero_le _)) h3 aD aB,h3⟩
theorem L6.up {w w':World} {v:Value} {ls:List (List UInt8)} (h:L6 w w.heap.size v ls) (hb:Below w.heap.size w w'):L6 w' w'.heap.size v ls:=(h.below hb).more hb.size
theorem By.up {w w':World} {v:Value} {l:List UInt8} (h:By w 0 w.heap.size v l) (hb:Below w.heap.size w w'):By w' 0 w'.heap.size v l:=(h.below hb).more hb.size
theorem Bk.by {w:World} {g:Nat} {t:TypeId} {l m:List UInt8} (K:Bk w g t (c8 l)) (o n c:Nat) (hn:o+n≤l.length) (hc:n≤c) (hc2:c≤9223372036854775807) (hm:(l.drop o).take n=m):By w 0 w.heap.size (.slice (some ⟨g,o,none⟩) n c) m:=by
 have aA:m.length=n:=by rw[←hm];simp;omega
 have:=By.mk_ (w:=w) (lo:=0) (B:=w.heap.size) (A:=some ⟨g,o,none⟩) (c:=c) (l:=m) (by omega) (by unfold maxLen;exact hc2) (.inr ⟨g,o,rfl,Nat.zero_le _,K.lt,fun j u hj=>K.at_ (by
  have h1:j<m.length:=by have:=(List.getElem?_eq_some_iff.1 hj).1;simpa using this
  rw[←hj,←hm];simp only[c8,List.map_take,List.map_drop,List.getElem?_take,List.getElem?_drop];rw[if_pos (by omega)])⟩)
 rwa [aA]at this
theorem Bk.byAll {w:World} {g:Nat} {t:TypeId} {l:List UInt8} {n:Nat} (K:Bk w g t (c8 l)) (hl:l.length=n) (hn:n≤9223372036854775807):By w 0 w.heap.size (.slice (some ⟨g,0,none⟩) n n) l:=
 K.by 0 n n (by omega) (Nat.le_refl _) hn (by rw[List.drop_zero,List.take_of_length_le (by omega)])
def zs (i:Nat) (d:Tmp) (n:Nat) (ls:List (List UInt8)):Soup:=⟨i,d,fun v w=>∃g,v=.slice (some ⟨g,0,none⟩) n n∧L6 w w.heap.size v ls,false⟩
def zp (i:Nat) (d:Tmp) (ls:List (List UInt8)):Soup:=⟨i,d,fun v w=>L6 w w.heap.size v ls,false⟩
def zb (i:Nat) (d:Tmp) (l:List UInt8):Soup:=⟨i,d,fun v w=>By w 0 w.heap.size v l,false⟩
theorem zs_mono (i:Nat) (d:Tmp) (n:Nat) (ls:List (List UInt8)):(zs i d n ls).mono:=fun _ _ _ ⟨g,e,h⟩ hb=>⟨g,e,h.up hb⟩
theorem zp_mono (i:Nat) (d:Tmp) (ls:List (List UInt8)):(zp i d ls).mono:=fun _ _ _ h hb=>h.up hb
theorem zb_mono (i:Nat) (d:Tmp) (l:List UInt8):(zb i d l).mono:=fun _ _ _ h hb=>h.up hb
def Yw (l:List UInt8):List UInt64:=Ou (Xb l)
theorem A0j (l:List UInt8):(Yw l).length=4:=Ep _
theorem B4h (vp:Value) (ls:List (List UInt8)) (w:World) (hp:L6 w w.heap.size vp ls) (hsz:ls.flatten.length≤1099511627776):Calls Tryz.prog 105 #[vp] w fun e w'=>e=.returned (J7 (Yw ls.flatten))∧Below w.heap.size w w':=by
 obtain⟨W0,aA⟩:∃z,z=w.alloc (Obj.cells (C7 (J8 4)).toArray 184):=⟨_,rfl⟩;have B0:Below w.heap.size w W0:=by rw[aA];exact (Below.refl _ _).alloc (Nat.le_refl _) _
 have R0:Bk W0 w.heap.size 184 (C7 (J8 4)):=by rw[aA];exact Bk.new w _ _
 have P0:=Lib.hid (hp.up B0);clear hp;go_enter Tryz.func105,Tryz.ntmps105;go_wp2_with fail;rw[←aA];clear aA;refine (A0q vp ls W0 P0.out hsz).mono ?_;rintro e w1 ⟨rfl,b1⟩;have R1:=R0.below b1 R0.lt;have B1:=C0 B0 b1 B0.size;obtain⟨h,hh⟩:∃h,h=Xb ls.flatten:=⟨_,rfl⟩;have hl:h.length=64:=by rw[hh];exact Vo _
 have HN:Hid (Yw ls.flatten=Ou h):=Lib.hid (by rw[hh];rfl);rw[←hh];clear hh;go_wp2_with fail;refine (A4f h hl w1).mono ?_;rintro e w2 ⟨rfl,b2⟩;have R2:=R1.below b2 R1.lt;have B2:=C0 B1 b2 B1.size;have aB:=Ep h;have aC:E8 w2 ⟨w.heap.size,0,none⟩ 4=true:=R2.can (by simp);go_wp2_with fail;refine bodyPost_ret (E9 rfl _ _ _ _ _ _ rfl (R2.puts (vs:=C7 (Ou h)) (by simp[aB])) Dt rfl (by simp[He,aB])) rfl ⟨by rw[HN.out];rfl,C1 B2 (Nat.le_refl _) _⟩
end Go.Proofs.YtlegpkdighoflaaGreat
