/- A part of the proof of DirBuilds. -/
import Derived.Test.YtlegpkdighoflaaGreatSas
set_option linter.unusedVariables false
set_option linter.unusedSimpArgs false
set_option maxRecDepth 100000
set_option maxHeartbeats 40000000
namespace Go.Proofs.YtlegpkdighoflaaGreat
open Go Go.RowKit Sh
theorem D1u:((Tryz.prog.info? 226).bind (·.zero))=some (A8 (z8 64)):=by kernel_rfl
@[go_sem ↓ high] theorem E5x:RA' 226 (c8 (z8 64)).toArray:=fun w ρ dst ty pos after guard=>N8 w ρ dst ty pos after guard 226 (A8 (z8 64)) D1u
def D9 (l:List UInt8) (o:Nat):List UInt8:=(l.drop o).take 32
theorem Ht {l:List UInt8} (hl:l.length=64) (o:Nat) (ho:o≤32):(D9 l o).length=32:=by unfold D9;simp;omega
theorem Bk.xyAt {w:World} {g:Nat} {t:TypeId} {l:List UInt8} (K:Bk w g t (c8 l)) (hl:l.length=64) (o:Nat) (ho:o≤32):E5 w ⟨g,o,none⟩ 32=some (c8 (D9 l o)):=by
 unfold D9;rw[K.rowMid o 32 (by simp;omega)];simp[c8]
noncomputable def Bj (i k:Nat):UInt8:=Ri (g8 P8 (128*i+2*k)) <<< 4 ||| Ri (g8 P8 (128*i+2*k+1))
noncomputable def B8p (i:Nat):List UInt8:=Gr (Bj i) 64 64
noncomputable def Hj (i:Nat):Pn:=Bs (T7 (D9 (B8p i) 0)) (T7 (D9 (B8p i) 32))
theorem Mg (i:Nat):(Hj i).Ok:=Dk (M7 _) (M7 _)
theorem C5q {i:Nat} (h:i<32):(Gj Hj 32 i).set i (Bs (T7 (D9 (Gr (Bj i) 64 64) 0)) (T7 (D9 (Gr (Bj i) 64 64) 32)))=Gj Hj 32 (i+1):=C6f h rfl
noncomputable def Fa:List Pn:=Gj Hj 32 32
theorem Il:Kj Fa:=Ke Mg 32 32
@[simp, go_sem] theorem B0u : Fa.length = 32 := Xy _ _ _
theorem D0r {i:Nat} (hi:i<32):Q4 Fa i=Hj i:=by unfold Fa;rw[B7t hi,if_pos hi]
theorem B6h (w:World):Calls Tryz.prog 126 #[] w fun e w'=>e=.returned (J7 (Pl Fa))∧Below w.heap.size w w':=by
 obtain⟨W0,cT⟩:∃z,z=(w.alloc (Obj.cells (C7 (J8 640)).toArray 205)):=⟨_,rfl⟩;have hL:W0=Q5 w [(205,(C7 (J8 640)))]:=cT;have B0:Below w.heap.size w W0:=by rw[hL];exact J9 _ _
 have bB:Bk W0 (w.heap.size) 205 (C7 (J8 640)):=by rw[hL];exact F9 _ w 0 _ _ rfl
 have z0:w.heap.size+1≤W0.heap.size:=by rw[hL,H9];simp
 have dK:W0.heap.size=w.heap.size+1:=by rw[hL,H9];rfl
 clear hL;obtain⟨V1,bL⟩:∃z,z=W0.alloc (Obj.cells (C7 (J8 640)).toArray 205):=⟨_,rfl⟩;have cU:W0.heap.size=w.heap.size+1:=dK;have aI:Bk V1 (w.heap.size+1) 205 (C7 (J8 640)):=by rw[bL,←cU];exact Bk.new W0 _ _
 have aL:Bk V1 (w.heap.size) 205 (C7 (J8 640)):=by rw[bL];exact bB.alloc _
 have cV:Below w.heap.size w V1:=by rw[bL];exact B0.alloc B0.size _
 have bN:w.heap.size<w.heap.size+1:=by rw[←cU];exact bB.lt
 have dL:w.heap.size+1≤w.heap.size+1:=by omega
 clear cU;go_enter Tryz.func126,Tryz.ntmps126;go_wp2_with fail;rw[←cT,←bL];have dM:w.heap.size+1≤V1.heap.size:=by have hz:=z0;rw[bL];first | (simp;omega) | (simp[World.setCell];omega)
 clear cT bL dK bB B0 z0;rw[←D6k Hj]at aI;go_wp2_with fail;refine (C0a V1).mono ?_;rintro e W2 ⟨rfl,b3⟩;have B2:=C0 cV b3 cV.size;have z2:=Nat.le_trans dM b3.size;have bO:=aL.below b3 aL.lt;have bP:=aI.below b3 aI.lt;clear b3 cV dM aL aI;go_wp2_with fail;go_loopw [8] (fun x8 wr=>∃i:Nat,0≤i∧i≤32∧x8=.int .i64 (i:Int)∧Bk wr (w.heap.size) 205 (C7 (J8 640))∧Bk wr (w.heap.size+1) 205 (C7 (Pl (Gj Hj 32 i)))∧Below w.heap.size w wr∧w.heap.size+1≤wr.heap.size) (fun x8 _=>32-(intOf x8).toNat)
 case atStart=>exact ⟨0,by omega,by omega,rfl,bO,bP,B2,z2⟩
 case round=>
  clear B2 z2 bO bP;obtain⟨i,eV,hi,rfl,aA,aB,aS,aT⟩:=hrel;by_cases hlti:i<32
  ·
   have eW:decide ((i:Int)<32)=true:=decide_eq_true (by omega);obtain⟨V4,bC⟩:∃z,z=wr.alloc (Obj.cells (c8 (z8 64)).toArray 226):=⟨_,rfl⟩;have bQ:wr.heap.size=wr.heap.size:=rfl;have aJ:Bk V4 (wr.heap.size) 226 (c8 (z8 64)):=by rw[bC,←bQ];exact Bk.new wr _ _
   have aV:Bk V4 (w.heap.size) 205 (C7 (J8 640)):=by rw[bC];exact aA.alloc _
   have aW:Bk V4 (w.heap.size+1) 205 (C7 (Pl (Gj Hj 32 i))):=by rw[bC];exact aB.alloc _
   have dN:Below w.heap.size w V4:=by rw[bC];exact aS.alloc aS.size _
   have aM:w.heap.size<wr.heap.size:=by rw[←bQ];exact aA.lt
   have aN:w.heap.size+1<wr.heap.size:=by rw[←bQ];exact aB.lt
   have bR:w.heap.size+1≤wr.heap.size:=by rw[←bQ];exact Nat.le_trans aT (Nat.le_refl _)
   clear bQ;go_wp2_with fail;rw[←bC];obtain⟨p5,cW⟩:∃g,g=wr.heap.size:=⟨_,rfl⟩;rw[←cW]at aJ aM aN bR;try rw[←cW]
   have dO:w.heap.size+1≤V4.heap.size:=by have hz:=aT;rw[bC];first | (simp;omega) | (simp[World.setCell];omega)
   clear bC cW aT;rw[←Wn (f:=Bj i)]at aJ;go_wp2_with fail;go_loopw [11] (fun x11 wr=>∃k:Nat,0≤k∧k≤64∧x11=.int .i64 (k:Int)∧Bk wr (w.heap.size) 205 (C7 (J8 640))∧Bk wr (w.heap.size+1) 205 (C7 (Pl (Gj Hj 32 i)))∧Bk wr (p5) 226 (c8 (Gr (Bj i) 64 k))∧Below w.heap.size w wr∧w.heap.size+1≤wr.heap.size) (fun x11 _=>64-(intOf x11).toNat)
   case atStart=>exact ⟨0,by omega,by omega,rfl,aV,aW,aJ,dN,dO⟩
   case round=>
    clear dN dO aV aW aJ;obtain⟨k,eX,hk,rfl,aA,aB,aD,aS,aT⟩:=hrel;by_cases hltk:k<64
    ·
     have eY:decide ((k:Int)<64)=true:=decide_eq_true (by omega);obtain⟨aC,bS⟩:∃a,a=128*i+2*k:=⟨_,rfl⟩;have eZ:128*(i:Int)+2*(k:Int)=(aC:Int):=by omega
     have eC:((aC:Int)+1).toNat=aC+1:=by omega
     have eD:=A3n;have fB:aC+1<P8.length:=by omega
     have eE:(aC:Int)+1<(P8.length:Int):=by omega
     have dQ:(aC:Int)<(P8.length:Int):=by omega
     obtain⟨qq,eF⟩:∃a,a=k / 32:=⟨_,rfl⟩;obtain⟨rr,eG⟩:∃a,a=k % 32:=⟨_,rfl⟩;have fC:(k:Int) / 32=(qq:Int):=by omega
     have fD:(k:Int) % 32=(rr:Int):=by omega
     have eH:Int.tmod (k:Int) 32=(rr:Int):=by rw[Int.tmod_eq_emod_of_nonneg (by omega)];omega
     have eI:qq<2:=by omega
     have eJ:rr<32:=by omega
     have dS:qq*32+rr=k:=by omega
     have eK:=Lib.hid dS;have HA:Hid (Bj i k=Ri (g8 P8 aC) <<< 4 ||| Ri (g8 P8 (aC+1))):=Lib.hid (by rw[bS];rfl);clear bS eF eG eD dS;go_wp2_with fail;have S6:Below wr.heap.size wr wr.drew:=(Below.refl _ _).drew;refine F2 (fun W=>True) (by kernel_rfl) ?_;refine C6 (A:=?fE) [0,1,2,3,4,5,6,9,10,11,12,15] (by kernel_rfl) (by kernel_rfl) rfl (by kernel_rfl) (by kernel_rfl) trivial (h:=fun W hW=>?eL) (hr:=?fF);case eL=>
      simp only[pick,List.getElem?_cons_zero,List.getElem?_cons_succ];repeat (go_big_quiet_step (fail))
      refine wpQuiet_nil ?_;rfl
     refine N9 [zv 7 26 (.int .u8 (n8 (Ri (g8 P8 aC)))),zv 8 27 (.int .u8 (n8 (Ri (g8 P8 aC) <<< 4))),zv 13 32 (.int .u8 (n8 (Ri (g8 P8 (aC+1))))),zv 14 33 (.int .u8 (n8 (Ri (g8 P8 aC) <<< 4 ||| Ri (g8 P8 (aC+1))))),zv 16 35 (.pointer (some ⟨p5,qq*32+rr,none⟩))] (by kernel_rfl) (fun W hW=>trivial) ?bT ?bU ?bV;case bT=>exact (List.forall_mem_cons.2 ⟨H7 _ _ _,(List.forall_mem_cons.2 ⟨H7 _ _ _,(List.forall_mem_cons.2 ⟨H7 _ _ _,(List.forall_mem_cons.2 ⟨H7 _ _ _,(List.forall_mem_cons.2 ⟨H7 _ _ _,(fun _ h=>by cases h)⟩)⟩)⟩)⟩)⟩)
     case bU=>
      refine (List.forall_mem_cons.2 ⟨?cX,(List.forall_mem_cons.2 ⟨?cY,(List.forall_mem_cons.2 ⟨?bX,(List.forall_mem_cons.2 ⟨?bY,(List.forall_mem_cons.2 ⟨?bZ,(fun _ h=>by cases h)⟩)⟩)⟩)⟩)⟩);case cX=>
       intro o ho us W hW hp Q' hQ';obtain rfl:=Option.some.inj ho;clear hp ho;rw[C2]at hQ' ⊢;dsimp only[E4,E0,List.foldl,zv,za]at hQ' ⊢;simp only[List.set_cons_succ,List.set_cons_zero];go_wp2_with fail;refine (Zb (g8 P8 aC) W).mono ?_;rintro e W2 ⟨rfl,b2⟩;go_wp2_with fail;exact C5 (hQ' _ _ b2 rfl (fun h=>by cases h)) (by kernel_rfl)
      case cY=>intro o ho us W hW hp Q' hQ';obtain rfl:=Option.some.inj ho;have aE:us 7=(.int .u8 (n8 (Ri (g8 P8 aC)))):=hp 0 _ rfl (by kernel_rfl);clear hp ho;rw[C2]at hQ' ⊢;dsimp only[E4,E0,List.foldl,zv,za]at hQ' ⊢;simp only[List.set_cons_succ,List.set_cons_zero];rw[aE]at hQ' ⊢;clear aE;go_wp2_with fail;exact C5 (hQ' _ _ (Below.refl _ _) rfl (fun h=>by cases h)) (by kernel_rfl)
      case bX=>intro o ho us W hW hp Q' hQ';obtain rfl:=Option.some.inj ho;have aE:us 7=(.int .u8 (n8 (Ri (g8 P8 aC)))):=hp 0 _ rfl (by kernel_rfl);clear hp ho;rw[C2]at hQ' ⊢;dsimp only[E4,E0,List.foldl,zv,za]at hQ' ⊢;simp only[List.set_cons_succ,List.set_cons_zero];rw[aE]at hQ' ⊢;clear aE;go_wp2_with fail;refine (Zb (g8 P8 (aC+1)) W).mono ?_;rintro e W2 ⟨rfl,b2⟩;go_wp2_with fail;exact C5 (hQ' _ _ b2 rfl (fun h=>by cases h)) (by kernel_rfl)
      case bY=>intro o ho us W hW hp Q' hQ';obtain rfl:=Option.some.inj ho;have aO:us 8=(.int .u8 (n8 (Ri (g8 P8 aC) <<< 4))):=hp 1 _ rfl (by kernel_rfl);have aF:us 13=(.int .u8 (n8 (Ri (g8 P8 (aC+1))))):=hp 2 _ rfl (by kernel_rfl);clear hp ho;rw[C2]at hQ' ⊢;dsimp only[E4,E0,List.foldl,zv,za]at hQ' ⊢;simp only[List.set_cons_succ,List.set_cons_zero];rw[aO,aF]at hQ' ⊢;clear aO aF;go_wp2_with fail;exact C5 (hQ' _ _ (Below.refl _ _) rfl (fun h=>by cases h)) (by kernel_rfl)
      case bZ=>intro o ho us W hW hp Q' hQ';obtain rfl:=Option.some.inj ho;have aE:us 7=(.int .u8 (n8 (Ri (g8 P8 aC)))):=hp 0 _ rfl (by kernel_rfl);have aO:us 8=(.int .u8 (n8 (Ri (g8 P8 aC) <<< 4))):=hp 1 _ rfl (by kernel_rfl);have aF:us 13=(.int .u8 (n8 (Ri (g8 P8 (aC+1))))):=hp 2 _ rfl (by kernel_rfl);have aP:us 14=(.int .u8 (n8 (Ri (g8 P8 aC) <<< 4 ||| Ri (g8 P8 (aC+1))))):=hp 3 _ rfl (by kernel_rfl);clear hp ho;rw[C2]at hQ' ⊢;dsimp only[E4,E0,List.foldl,zv,za]at hQ' ⊢;simp only[List.set_cons_succ,List.set_cons_zero];rw[aE,aO,aF,aP]at hQ' ⊢;clear aE aO aF aP;go_wp2_with fail;exact C5 (hQ' _ _ (Below.refl _ _) rfl (fun h=>by cases h)) (by kernel_rfl)
     case bV=>
     intro us W7 b8 hg bD cZ;have aE:us 7=(.int .u8 (n8 (Ri (g8 P8 aC)))):=hg _ (List.mem_of_getElem? (i:=0) rfl);have aO:us 8=(.int .u8 (n8 (Ri (g8 P8 aC) <<< 4))):=hg _ (List.mem_of_getElem? (i:=1) rfl);have aF:us 13=(.int .u8 (n8 (Ri (g8 P8 (aC+1))))):=hg _ (List.mem_of_getElem? (i:=2) rfl);have aP:us 14=(.int .u8 (n8 (Ri (g8 P8 aC) <<< 4 ||| Ri (g8 P8 (aC+1))))):=hg _ (List.mem_of_getElem? (i:=3) rfl);have cB:us 16=(.pointer (some ⟨p5,qq*32+rr,none⟩)):=hg _ (List.mem_of_getElem? (i:=4) rfl);have b9:=C0 S6 b8 S6.size;rw[C2];dsimp only[E0,List.foldl,zv,za];simp only[List.set_cons_succ,List.set_cons_zero];rw[aE,aO,aF,aP,cB];clear hg bD cZ aE aO aF aP cB b8 S6;have B7:=C0 aS b9 aS.size;have z7:=Nat.le_trans aT b9.size;have cC:=aA.below b9 aA.lt;have cD:=aB.below b9 aB.lt;have aU:=aD.below b9 aD.lt;clear b9 aS aT aA aB aD;obtain⟨cE,aG⟩:∃z,z=W7.setCell ⟨p5,qq*32+rr,none⟩ (.int .u8 (n8 (Ri (g8 P8 aC) <<< 4 ||| Ri (g8 P8 (aC+1))))):=⟨_,rfl⟩;have cF:Bk cE (p5) 226 (c8 ((Gr (Bj i) 64 k).set (qq*32+rr) (Ri (g8 P8 aC) <<< 4 ||| Ri (g8 P8 (aC+1))))):=by have:=aU.set_ (qq*32+rr) (.int .u8 (n8 (Ri (g8 P8 aC) <<< 4 ||| Ri (g8 P8 (aC+1)))));rw[Ia]at this;rw[aG];exact this
     have cG:Bk cE (w.heap.size) 205 (C7 (J8 640)):=by rw[aG];exact cC.far (p:=⟨p5,qq*32+rr,none⟩) (by show w.heap.size≠p5;omega) _
     have cH:Bk cE (w.heap.size+1) 205 (C7 (Pl (Gj Hj 32 i))):=by rw[aG];exact cD.far (p:=⟨p5,qq*32+rr,none⟩) (by show w.heap.size+1≠p5;omega) _
     have eM:Below w.heap.size w cE:=by rw[aG];exact B7.setCell (by show w.heap.size≤p5;omega) _
     have cI:=(aU).at_ (Fm (l:=(Gr (Bj i) 64 k)) (i:=qq*32+rr) (by have hh:(Gr (Bj i) 64 k).length=64:=(Hb (Bj i) 64 k);omega));have cJ:=(aU).frozen (qq*32+rr);refine C4 17 (by kernel_rfl) (by rfl) (by rfl) (fun Q' hQ'=>?_);dsimp only[E4];go_wp2_with fail;rw[←aG];refine hQ' _ _ trivial ?_;clear hQ' cI cJ;have eN:w.heap.size+1≤cE.heap.size:=by have hz:=z7;rw[aG];simp[World.setCell];omega
     clear aG B7 z7 cC cD aU;refine I9 (by kernel_rfl) ?_;go_wp2_with fail;go_roundw;case rel=>exact ⟨k+1,by omega,by omega,by go_num,cG,cH,(by have h4:=cF;rw[eK.out,A6q hltk HA.out.symm]at h4;exact h4),eM,eN⟩
     case measure=>simp[intOf];omega
    ·
     obtain rfl:k=64:=by omega
     have dT:((64:Nat):Int)=64:=rfl;rw[dT];clear dT;go_wp2_with fail;have dC:Below wr.heap.size wr wr.drew:=(Below.refl _ _).drew;refine F2 (fun W=>Bk W (p5) 226 (c8 (Gr (Bj i) 64 64))) (by kernel_rfl) ?_;refine C6 (A:=?eO) [0,1,2,4,5] (by kernel_rfl) (by kernel_rfl) rfl (by kernel_rfl) (by kernel_rfl) (aD.drew) (h:=fun W hW=>?dD) (hr:=?eP);case dD=>
      have f2:=Bk.xyAt (hW) (Hb (Bj i) 64 64) 0 (by decide);have f5:=Bk.xyAt (hW) (Hb (Bj i) 64 64) 32 (by decide);simp only[pick,List.getElem?_cons_zero,List.getElem?_cons_succ];repeat (go_big_quiet_step (fail))
      refine wpQuiet_nil ?_;rfl
     refine N9 [zv 3 40 (J7 (T7 (D9 (Gr (Bj i) 64 64) 0))),zv 6 43 (J7 (T7 (D9 (Gr (Bj i) 64 64) 32))),zv 7 44 (J7 (Bs (T7 (D9 (Gr (Bj i) 64 64) 0)) (T7 (D9 (Gr (Bj i) 64 64) 32))).row),zv 8 45 (.pointer (some ⟨w.heap.size+1,i*20,none⟩))] (by kernel_rfl) (fun W hW=>(aD.drew.below hW aD.drew.lt)) ?bE ?bF ?bG;case bE=>exact (List.forall_mem_cons.2 ⟨H7 _ _ _,(List.forall_mem_cons.2 ⟨H7 _ _ _,(List.forall_mem_cons.2 ⟨H7 _ _ _,(List.forall_mem_cons.2 ⟨H7 _ _ _,(fun _ h=>by cases h)⟩)⟩)⟩)⟩)
     case bF=>
      refine (List.forall_mem_cons.2 ⟨?cK,(List.forall_mem_cons.2 ⟨?cL,(List.forall_mem_cons.2 ⟨?cM,(List.forall_mem_cons.2 ⟨?cN,(fun _ h=>by cases h)⟩)⟩)⟩)⟩);case cK=>
       intro o ho us W hW hp Q' hQ';obtain rfl:=Option.some.inj ho;clear hp ho;rw[C2]at hQ' ⊢;dsimp only[E4,E0,List.foldl,zv,za]at hQ' ⊢;simp only[List.set_cons_succ,List.set_cons_zero];go_wp2_with fail;refine (Fj (D9 (Gr (Bj i) 64 64) 0) (Ht (Hb (Bj i) 64 64) 0 (by decide)) W).mono ?_;rintro e W2 ⟨rfl,b2⟩;go_wp2_with fail;exact C5 (hQ' _ _ b2 rfl (fun h=>by cases h)) (by kernel_rfl)
      case cL=>intro o ho us W hW hp Q' hQ';obtain rfl:=Option.some.inj ho;have aQ:us 3=(J7 (T7 (D9 (Gr (Bj i) 64 64) 0))):=hp 0 _ rfl (by kernel_rfl);clear hp ho;rw[C2]at hQ' ⊢;dsimp only[E4,E0,List.foldl,zv,za]at hQ' ⊢;simp only[List.set_cons_succ,List.set_cons_zero];rw[aQ]at hQ' ⊢;clear aQ;go_wp2_with fail;refine (Fj (D9 (Gr (Bj i) 64 64) 32) (Ht (Hb (Bj i) 64 64) 32 (by decide)) W).mono ?_;rintro e W2 ⟨rfl,b2⟩;go_wp2_with fail;exact C5 (hQ' _ _ b2 rfl (fun h=>by cases h)) (by kernel_rfl)
      case cM=>intro o ho us W hW hp Q' hQ';obtain rfl:=Option.some.inj ho;have aQ:us 3=(J7 (T7 (D9 (Gr (Bj i) 64 64) 0))):=hp 0 _ rfl (by kernel_rfl);have aX:us 6=(J7 (T7 (D9 (Gr (Bj i) 64 64) 32))):=hp 1 _ rfl (by kernel_rfl);clear hp ho;rw[C2]at hQ' ⊢;dsimp only[E4,E0,List.foldl,zv,za]at hQ' ⊢;simp only[List.set_cons_succ,List.set_cons_zero];rw[aQ,aX]at hQ' ⊢;clear aQ aX;go_wp2_with fail;refine (B3y (T7 (D9 (Gr (Bj i) 64 64) 0)) (T7 (D9 (Gr (Bj i) 64 64) 32)) (M7 (D9 (Gr (Bj i) 64 64) 0)) (M7 (D9 (Gr (Bj i) 64 64) 32)) W).mono ?_;rintro e W2 ⟨rfl,b2⟩;go_wp2_with fail;exact C5 (hQ' _ _ b2 rfl (fun h=>by cases h)) (by kernel_rfl)
      case cN=>intro o ho us W hW hp Q' hQ';obtain rfl:=Option.some.inj ho;have aQ:us 3=(J7 (T7 (D9 (Gr (Bj i) 64 64) 0))):=hp 0 _ rfl (by kernel_rfl);have aX:us 6=(J7 (T7 (D9 (Gr (Bj i) 64 64) 32))):=hp 1 _ rfl (by kernel_rfl);have aE:us 7=(J7 (Bs (T7 (D9 (Gr (Bj i) 64 64) 0)) (T7 (D9 (Gr (Bj i) 64 64) 32))).row):=hp 2 _ rfl (by kernel_rfl);clear hp ho;rw[C2]at hQ' ⊢;dsimp only[E4,E0,List.foldl,zv,za]at hQ' ⊢;simp only[List.set_cons_succ,List.set_cons_zero];rw[aQ,aX,aE]at hQ' ⊢;clear aQ aX aE;go_wp2_with fail;exact C5 (hQ' _ _ (Below.refl _ _) rfl (fun h=>by cases h)) (by kernel_rfl)
     case bG=>
     intro us dU dW hg bD cZ;have aQ:us 3=(J7 (T7 (D9 (Gr (Bj i) 64 64) 0))):=hg _ (List.mem_of_getElem? (i:=0) rfl);have aX:us 6=(J7 (T7 (D9 (Gr (Bj i) 64 64) 32))):=hg _ (List.mem_of_getElem? (i:=1) rfl);have aE:us 7=(J7 (Bs (T7 (D9 (Gr (Bj i) 64 64) 0)) (T7 (D9 (Gr (Bj i) 64 64) 32))).row):=hg _ (List.mem_of_getElem? (i:=2) rfl);have aO:us 8=(.pointer (some ⟨w.heap.size+1,i*20,none⟩)):=hg _ (List.mem_of_getElem? (i:=3) rfl);have bM:=C0 dC dW dC.size;rw[C2];dsimp only[E0,List.foldl,zv,za];simp only[List.set_cons_succ,List.set_cons_zero];rw[aQ,aX,aE,aO];clear hg bD cZ aQ aX aE aO dW dC;have dX:=C0 aS bM aS.size;have dY:=Nat.le_trans aT bM.size;have aY:=aA.below bM aA.lt;have aR:=aB.below bM aB.lt;have aZ:=aD.below bM aD.lt;clear bM aS aT aA aB aD;obtain⟨cO,aH⟩:∃z,z=C9 dU ⟨w.heap.size+1,i*20,none⟩ (C7 (Bs (T7 (D9 (Gr (Bj i) 64 64) 0)) (T7 (D9 (Gr (Bj i) 64 64) 32))).row):=⟨_,rfl⟩;have cP:Bk cO (w.heap.size+1) 205 (C7 (Pl ((Gj Hj 32 i).set i (Bs (T7 (D9 (Gr (Bj i) 64 64) 0)) (T7 (D9 (Gr (Bj i) 64 64) 32)))))):=by rw[aH];exact Bk.plPut (i:=i) (aR) (Ke Mg 32 i) (by simp;try omega) (Dk (M7 (D9 (Gr (Bj i) 64 64) 0)) (M7 (D9 (Gr (Bj i) 64 64) 32)))
     have cQ:Bk cO (w.heap.size) 205 (C7 (J8 640)):=by rw[aH];exact aY.putFar (p:=⟨w.heap.size+1,i*20,none⟩) (by show w.heap.size≠w.heap.size+1;omega) _
     have cR:Bk cO (p5) 226 (c8 (Gr (Bj i) 64 64)):=by rw[aH];exact aZ.putFar (p:=⟨w.heap.size+1,i*20,none⟩) (by show p5≠w.heap.size+1;omega) _
     have eQ:Below w.heap.size w cO:=by rw[aH];exact C1 dX (by show w.heap.size≤w.heap.size+1;omega) _
     have bH:E8 dU ⟨w.heap.size+1,i*20,none⟩ 20=true:=Bk.plCan (i:=i) (aR) (Ke Mg 32 i) (by simp;try omega);have bI:(Bs (T7 (D9 (Gr (Bj i) 64 64) 0)) (T7 (D9 (Gr (Bj i) 64 64) 32))).row.length=20:=(Dk (M7 (D9 (Gr (Bj i) 64 64) 0)) (M7 (D9 (Gr (Bj i) 64 64) 32))).row;refine C4 9 (by kernel_rfl) (by rfl) (by rfl) (fun Q' hQ'=>?_);dsimp only[E4];go_wp2_with fail;rw[←aH];refine hQ' _ _ cR ?_;clear hQ' bH bI;have eS:w.heap.size+1≤cO.heap.size:=by have hz:=dY;rw[aH];simp;omega
     clear aH dX dY aY aR aZ;refine I9 (by kernel_rfl) ?_;go_wp2_with fail;go_roundw;case rel=>exact ⟨i+1,by omega,by omega,by go_num,cQ,(by have h1:=cP;rw[C5q hlti]at h1;exact h1),eQ,eS⟩
     case measure=>simp[intOf];omega
  ·
   obtain rfl:i=32:=by omega
   have dZ:((32:Nat):Int)=32:=rfl;rw[dZ];clear dZ;obtain⟨cS,aK⟩:∃z,z=C9 wr ⟨w.heap.size,0,none⟩ (C7 (Pl (Gj Hj 32 32))):=⟨_,rfl⟩;have bJ:Bk cS (w.heap.size) 205 (C7 (Pl (Gj Hj 32 32))):=by rw[aK];exact Bk.put64 (aA) ((show (J8 640).length=640 from by simp)) ((show (Pl (Gj Hj 32 32)).length=640 from by rw[X5 (Ke Mg 32 32)];simp))
   have dF:Bk cS (w.heap.size+1) 205 (C7 (Pl (Gj Hj 32 32))):=by rw[aK];exact aB.putFar (p:=⟨w.heap.size,0,none⟩) (by show w.heap.size+1≠w.heap.size;omega) _
   have dG:Below w.heap.size w cS:=by rw[aK];exact C1 aS (by show w.heap.size≤w.heap.size;omega) _
   have eT:=Bk.row64 (n:=640) (aB) ((show (Pl (Gj Hj 32 32)).length=640 from by rw[X5 (Ke Mg 32 32)];simp));have bK:E8 wr ⟨w.heap.size,0,none⟩ 640=true:=Bk.can64 (aA) ((show (J8 640).length=640 from by simp));have dI:(Pl (Gj Hj 32 32)).length=640:=(show (Pl (Gj Hj 32 32)).length=640 from by rw[X5 (Ke Mg 32 32)];simp);go_wp2_with fail;rw[←aK];clear eT bK dI;have eU:w.heap.size+1≤cS.heap.size:=by have hz:=aT;rw[aK];first | (simp;omega) | (simp[World.setCell];omega)
   clear aK aT;have dJ:(Pl (Gj Hj 32 32)).length=640:=(show (Pl (Gj Hj 32 32)).length=640 from by rw[X5 (Ke Mg 32 32)];simp);refine bodyPost_ret (E9 rfl _ _ _ _ _ _ rfl bJ Tryz.underlying205 rfl (by simp[Yz,dJ])) rfl ⟨rfl,dG⟩
noncomputable def D2u (n:Nat) (w:World) (raw:Result Next) (v z:Value):Result Next:=match Ya v,z with
 | some l,.int _ i=>if l.length=n*20∧0≤i∧i<n then .ok (.value (J7 ((l.drop (i.toNat*20)).take 20))) w else raw
 | _,_=>raw
@[go_sem] theorem E8j (n : Nat) (w : World) (raw : Result Next) (ps : List Pn) (h : Kj ps) (hl : ps.length = n) (k : IntKind) (i : Nat) (hi : i < n) : D2u n w raw (J7 (Pl ps)) (.int k (i : Int)) = .ok (.value (J7 (Q4 ps i).row)) w := by
 have h1:=X5 h;have h2:=C8o i h (by omega);unfold D2u;rw[Va];show (if (Pl ps).length=n*20∧0≤(i:Int)∧(i:Int)<n then Result.ok (.value (J7 (((Pl ps).drop ((i:Int).toNat*20)).take 20))) w else raw)=_;rw[if_pos ⟨by omega,by omega,by omega⟩,Int.toNat_natCast,h2];rfl
theorem B7y (w:World):(sizeOf 140).run Tryz.prog w=.ok 20 w:=by kernel_rfl
theorem D0n (xs:List UInt64) (o:Nat) (w:World):(part 140 (C7 xs).toArray o).run Tryz.prog w=.ok (J7 ((xs.drop o).take 20)) w:=by
 simp[part,isAgg,run_underlying Hc,B7y,J7,C7,List.extract_eq_take_drop]
@[go_sem ↓ high] theorem D9l (w : World) (ρ : Operand → Value) (dst : Option Tmp) (ty : TypeId) (pos : String) (after : Array Edge) (guard : Option (Nat × Bool)) (x ix : Operand) :
 (execOp ρ { dst,op:=.index 205 x ix,type:=ty,pos,after,guard }).run Tryz.prog w=D2u 32 w (M6 Tryz.prog ρ { dst,op:=.index 205 x ix,type:=ty,pos,after,guard } w) (ρ x) (ρ ix):=by
 generalize hv:ρ x=v;generalize hz:ρ ix=z;unfold D2u;split
 ·rename_i l k i h1
  replace h1:=Gi h1;split
  ·rename_i hc
   obtain⟨h2,h3,h4⟩:=hc;subst h1;have h5:i<32:=by omega
   have h6:¬ 32≤i:=by omega
   have e1:(part 140 (C7 l).toArray (i.toNat*20)).run Tryz.prog w=.ok (J7 ((l.drop (i.toNat*20)).take 20)) w:=D0n l _ w;simp[execOp,hv,hz,J7,Instr.index,run_underlying Tryz.underlying205,asIntOf,h3,h4,h5,h6,B7y,e1]
  ·rfl
 ·rfl
def C0c (n:List UInt8) (i s:Nat):Bool:=g8 n i >>> UInt8.ofNat s &&& 1==1
noncomputable def Z9 (n:List UInt8) (s:Nat) (r:Pn):Nat→Pn
 | 0=>r
 | i+1=>if C0c n i s then X6 (Z9 n s r i) (Hj i) F0 else Z9 n s r i
theorem Gy (n:List UInt8) (s:Nat) {r:Pn} (hr:r.Ok):∀i,(Z9 n s r i).Ok
 | 0=>hr
 | i+1=>by
  unfold Z9;split
  ·exact Db _ _ _
  ·exact Gy n s hr i
theorem B1h {n:List UInt8} {s:Nat} {r:Pn} {i:Nat} (hb:C0c n i s=true) (hi:i<32):Z9 n s r (i+1)=X6 (Z9 n s r i) (Q4 Fa i) F0:=by
 rw[D0r hi];exact if_pos hb
theorem B5z {n:List UInt8} {s:Nat} {r:Pn} {i:Nat} (hb:C0c n i s=false):Z9 n s r (i+1)=Z9 n s r i:=if_neg (by rw[hb];decide)
noncomputable def W8 (n:List UInt8):Nat→Pn
 | 0=>Q3 Cm
 | m+1=>Z9 n (7-m) (Gm (W8 n m)) 32
theorem Em (n:List UInt8):∀m,(W8 n m).Ok
 | 0=>X3 Dn
 | m+1=>Gy n _ (Fc _) 32
noncomputable def Nd (n:List UInt8):Pn:=W8 n 8
theorem Qz (n:List UInt8):(Nd n).Ok:=Em n 8
theorem B8y (n:List UInt8) (hn:n.length=32) (w:World):Calls Tryz.prog 94 #[A8 n] w fun e w'=>e=.returned (J7 (Nd n).row)∧Below w.heap.size w w':=by
 have iP:=Il;have iQ:=B0u;obtain⟨W0,gF⟩:∃z,z=((w.alloc (Obj.cells (c8 n).toArray 23)).alloc (Obj.cells (C7 (J8 20)).toArray 140)):=⟨_,rfl⟩;have hL:W0=Q5 w [(23,(c8 n)),(140,(C7 (J8 20)))]:=gF;have B0:Below w.heap.size w W0:=by rw[hL];exact J9 _ _
 have eJ:Bk W0 (w.heap.size) 23 (c8 n):=by rw[hL];exact F9 _ w 0 _ _ rfl
 have eK:Bk W0 (w.heap.size+1) 140 (C7 (J8 20)):=by rw[hL];exact F9 _ w 1 _ _ rfl
 have z0:w.heap.size+2≤W0.heap.size:=by rw[hL,H9];simp
 have iK:W0.heap.size=w.heap.size+2:=by rw[hL,H9];rfl
 clear hL;go_enter Tryz.func94,Tryz.ntmps94;go_wp2_with fail;rw[←gF];clear gF iK;refine (Vn W0).mono ?_;rintro e W1 ⟨rfl,b2⟩;have B1:=C0 B0 b2 B0.size;have z1:=Nat.le_trans z0 b2.size;have eL:=eJ.below b2 eJ.lt;have eM:=eK.below b2 eK.lt;clear b2 B0 z0 eJ eK;obtain⟨V3,dG⟩:∃z,z=W1.alloc (Obj.cells (C7 (J8 5)).toArray 138):=⟨_,rfl⟩;have fQ:W1.heap.size=W1.heap.size:=rfl;have bL:Bk V3 (W1.heap.size) 138 (C7 (J8 5)):=by rw[dG,←fQ];exact Bk.new W1 _ _
 have dI:Bk V3 (w.heap.size) 23 (c8 n):=by rw[dG];exact eL.alloc _
 have dJ:Bk V3 (w.heap.size+1) 140 (C7 (J8 20)):=by rw[dG];exact eM.alloc _
 have gV:Below w.heap.size w V3:=by rw[dG];exact B1.alloc B1.size _
 have bM:w.heap.size<W1.heap.size:=by rw[←fQ];exact eL.lt
 have bN:w.heap.size+1<W1.heap.size:=by rw[←fQ];exact eM.lt
 have fR:w.heap.size+2≤W1.heap.size:=by rw[←fQ];exact Nat.le_trans z1 (Nat.le_refl _)
 clear fQ;obtain⟨V4,eN⟩:∃z,z=C9 V3 ⟨W1.heap.size,0,none⟩ (C7 F0):=⟨_,rfl⟩;have bJ:Bk V4 (W1.heap.size) 138 (C7 F0):=by rw[eN];exact Bk.put64 (bL) ((show (J8 5).length=5 from by simp)) (O7)
 have bO:Bk V4 (w.heap.size) 23 (c8 n):=by rw[eN];exact dI.putFar (p:=⟨W1.heap.size,0,none⟩) (by show w.heap.size≠W1.heap.size;omega) _
 have bP:Bk V4 (w.heap.size+1) 140 (C7 (J8 20)):=by rw[eN];exact dJ.putFar (p:=⟨W1.heap.size,0,none⟩) (by show w.heap.size+1≠W1.heap.size;omega) _
 have gG:Below w.heap.size w V4:=by rw[eN];exact C1 gV (by show w.heap.size≤W1.heap.size;omega) _
 have dK:E8 V3 ⟨W1.heap.size,0,none⟩ 5=true:=Bk.can64 (bL) ((show (J8 5).length=5 from by simp));rw[dG]at dK;have aE:F0.length=5:=O7;go_wp2_with fail;rw[←dG,←eN];clear dK aE;obtain⟨p5,gH⟩:∃g,g=W1.heap.size:=⟨_,rfl⟩;rw[←gH]at bJ bM bN fR;try rw[←gH]
 have gW:w.heap.size+2≤V4.heap.size:=by have hz:=z1;rw[eN,dG];first | (simp;omega) | (simp[World.setCell];omega)
 clear dG eN gH eL eM B1 z1 dI dJ bL gV;refine (B6h V4).mono ?_;rintro e W6 ⟨rfl,b7⟩;have B6:=C0 gG b7 gG.size;have z6:=Nat.le_trans gW b7.size;have eO:=bO.below b7 bO.lt;have eP:=bP.below b7 bP.lt;have eQ:=bJ.below b7 bJ.lt;clear b7 gG gW bO bP bJ;obtain⟨V8,cZ⟩:∃z,z=W6.alloc (Obj.cells (C7 (J8 640)).toArray 205):=⟨_,rfl⟩;have fP:W6.heap.size=W6.heap.size:=rfl;have bQ:Bk V8 (W6.heap.size) 205 (C7 (J8 640)):=by rw[cZ,←fP];exact Bk.new W6 _ _
 have dL:Bk V8 (w.heap.size) 23 (c8 n):=by rw[cZ];exact eO.alloc _
 have dM:Bk V8 (w.heap.size+1) 140 (C7 (J8 20)):=by rw[cZ];exact eP.alloc _
 have dN:Bk V8 (p5) 138 (C7 F0):=by rw[cZ];exact eQ.alloc _
 have gX:Below w.heap.size w V8:=by rw[cZ];exact B6.alloc B6.size _
 have bR:w.heap.size<W6.heap.size:=by rw[←fP];exact eO.lt
 have bS:w.heap.size+1<W6.heap.size:=by rw[←fP];exact eP.lt
 have bT:p5<W6.heap.size:=by rw[←fP];exact eQ.lt
 have fS:w.heap.size+2≤W6.heap.size:=by rw[←fP];exact Nat.le_trans z6 (Nat.le_refl _)
 clear fP;obtain⟨V9,dO⟩:∃z,z=C9 V8 ⟨W6.heap.size,0,none⟩ (C7 (Pl Fa)):=⟨_,rfl⟩;have bK:Bk V9 (W6.heap.size) 205 (C7 (Pl Fa)):=by rw[dO];exact Bk.put64 (bQ) ((show (J8 640).length=640 from by simp)) ((show (Pl Fa).length=640 from by rw[X5 Il];simp))
 have bU:Bk V9 (w.heap.size) 23 (c8 n):=by rw[dO];exact dL.putFar (p:=⟨W6.heap.size,0,none⟩) (by show w.heap.size≠W6.heap.size;omega) _
 have bV:Bk V9 (w.heap.size+1) 140 (C7 (J8 20)):=by rw[dO];exact dM.putFar (p:=⟨W6.heap.size,0,none⟩) (by show w.heap.size+1≠W6.heap.size;omega) _
 have bX:Bk V9 (p5) 138 (C7 F0):=by rw[dO];exact dN.putFar (p:=⟨W6.heap.size,0,none⟩) (by show p5≠W6.heap.size;omega) _
 have gI:Below w.heap.size w V9:=by rw[dO];exact C1 gX (by show w.heap.size≤W6.heap.size;omega) _
 have dQ:E8 V8 ⟨W6.heap.size,0,none⟩ 640=true:=Bk.can64 (bQ) ((show (J8 640).length=640 from by simp));rw[cZ]at dQ;have aE:(Pl Fa).length=640:=(show (Pl Fa).length=640 from by rw[X5 Il];simp);go_wp2_with fail;rw[←cZ,←dO];clear dQ aE;obtain⟨bD,eS⟩:∃g,g=W6.heap.size:=⟨_,rfl⟩;rw[←eS]at bK bR bS bT fS;try rw[←eS]
 have gY:w.heap.size+2≤V9.heap.size:=by have hz:=z6;rw[dO,cZ];first | (simp;omega) | (simp[World.setCell];omega)
 clear cZ dO eS eO eP eQ B6 z6 dL dM dN bQ gX;refine (C2n Cm Dn V9).mono ?_;rintro e aL ⟨rfl,eT⟩;have gJ:=C0 gI eT gI.size;have gK:=Nat.le_trans gY eT.size;have bY:=bU.below eT bU.lt;have bZ:=bV.below eT bV.lt;have cB:=bX.below eT bX.lt;have cC:=bK.below eT bK.lt;clear eT gI gY bU bV bX bK;obtain⟨dS,aP⟩:∃z,z=aL.alloc (Obj.cells (C7 (J8 20)).toArray 140):=⟨_,rfl⟩;have bE:aL.heap.size=aL.heap.size:=rfl;have bF:Bk dS (aL.heap.size) 140 (C7 (J8 20)):=by rw[aP,←bE];exact Bk.new aL _ _
 have cD:Bk dS (w.heap.size) 23 (c8 n):=by rw[aP];exact bY.alloc _
 have cE:Bk dS (w.heap.size+1) 140 (C7 (J8 20)):=by rw[aP];exact bZ.alloc _
 have cF:Bk dS (p5) 138 (C7 F0):=by rw[aP];exact cB.alloc _
 have cG:Bk dS (bD) 205 (C7 (Pl Fa)):=by rw[aP];exact cC.alloc _
 have fT:Below w.heap.size w dS:=by rw[aP];exact gJ.alloc gJ.size _
 have cH:w.heap.size<aL.heap.size:=by rw[←bE];exact bY.lt
 have cI:w.heap.size+1<aL.heap.size:=by rw[←bE];exact bZ.lt
 have cJ:p5<aL.heap.size:=by rw[←bE];exact cB.lt
 have cK:bD<aL.heap.size:=by rw[←bE];exact cC.lt
 have fU:w.heap.size+2≤aL.heap.size:=by rw[←bE];exact Nat.le_trans gK (Nat.le_refl _)
 clear bE;obtain⟨eU,aS⟩:∃z,z=C9 dS ⟨aL.heap.size,0,none⟩ (C7 (Q3 Cm).row):=⟨_,rfl⟩;have bG:Bk eU (aL.heap.size) 140 (C7 (Q3 Cm).row):=by rw[aS];exact Bk.put64 (bF) ((show (J8 20).length=20 from by simp)) ((X3 Dn).row)
 have cL:Bk eU (w.heap.size) 23 (c8 n):=by rw[aS];exact cD.putFar (p:=⟨aL.heap.size,0,none⟩) (by show w.heap.size≠aL.heap.size;omega) _
 have cM:Bk eU (w.heap.size+1) 140 (C7 (J8 20)):=by rw[aS];exact cE.putFar (p:=⟨aL.heap.size,0,none⟩) (by show w.heap.size+1≠aL.heap.size;omega) _
 have cN:Bk eU (p5) 138 (C7 F0):=by rw[aS];exact cF.putFar (p:=⟨aL.heap.size,0,none⟩) (by show p5≠aL.heap.size;omega) _
 have cO:Bk eU (bD) 205 (C7 (Pl Fa)):=by rw[aS];exact cG.putFar (p:=⟨aL.heap.size,0,none⟩) (by show bD≠aL.heap.size;omega) _
 have fV:Below w.heap.size w eU:=by rw[aS];exact C1 fT (by show w.heap.size≤aL.heap.size;omega) _
 have cP:E8 dS ⟨aL.heap.size,0,none⟩ 20=true:=Bk.can64 (bF) ((show (J8 20).length=20 from by simp));rw[aP]at cP;have aE:(Q3 Cm).row.length=20:=(X3 Dn).row;go_wp2_with fail;rw[←aP,←aS];clear cP aE;obtain⟨aC,eV⟩:∃g,g=aL.heap.size:=⟨_,rfl⟩;rw[←eV]at bG cH cI cJ cK fU;try rw[←eV]
 have fW:w.heap.size+2≤eU.heap.size:=by have hz:=gK;rw[aS,aP];first | (simp;omega) | (simp[World.setCell];omega)
 clear aP aS eV bY bZ cB cC gJ gK cD cE cF cG bF fT;go_loopw [6] (fun x6 wr=>∃m:Nat,0≤m∧m≤8∧x6=.int .i64 (7-(m:Int))∧Bk wr (w.heap.size) 23 (c8 n)∧Bk wr (w.heap.size+1) 140 (C7 (J8 20))∧Bk wr (p5) 138 (C7 F0)∧Bk wr (bD) 205 (C7 (Pl Fa))∧Bk wr (aC) 140 (C7 (W8 n m).row)∧Below w.heap.size w wr∧w.heap.size+2≤wr.heap.size) (fun x6 _=>(intOf x6+1).toNat)
 case atStart=>exact ⟨0,by omega,by omega,rfl,cL,cM,cN,cO,bG,fV,fW⟩
 case round=>
  clear fV fW cL cM cN cO bG;obtain⟨m,iR,hm,rfl,aI,aF,aJ,aK,aD,dT,cQ⟩:=hrel;by_cases hltm:m<8
  ·
   obtain⟨s,hs⟩:∃s,s=7-m:=⟨_,rfl⟩;have es:7-(m:Int)=(s:Int):=by omega
   have iL:s<8:=by omega
   have hd:decide (0≤(s:Int))=true:=decide_eq_true (by omega);rw[es];have HM:Hid (W8 n (m+1)=Z9 n s (Gm (W8 n m)) 32):=Lib.hid (by rw[hs];rfl);have ES:=Lib.hid es;clear hs es;have iM:=Bk.row64 (n:=20) (aD) ((Em n m).row);go_wp2_with fail;clear iM;refine (Pe (W8 n m) (Em n m) wr).mono ?_;rintro e gZ ⟨rfl,dU⟩;have iA:=C0 dT dU dT.size;have iB:=Nat.le_trans cQ dU.size;have dW:=aI.below dU aI.lt;have dX:=aF.below dU aF.lt;have dY:=aJ.below dU aJ.lt;have dZ:=aK.below dU aK.lt;have cR:=aD.below dU aD.lt;clear dU dT cQ aI aF aJ aK aD;obtain⟨eW,aQ⟩:∃z,z=C9 gZ ⟨aC,0,none⟩ (C7 (Gm (W8 n m)).row):=⟨_,rfl⟩;have cS:Bk eW (aC) 140 (C7 (Gm (W8 n m)).row):=by rw[aQ];exact Bk.put64 (cR) ((Em n m).row) ((Fc (W8 n m)).row)
   have cT:Bk eW (w.heap.size) 23 (c8 n):=by rw[aQ];exact dW.putFar (p:=⟨aC,0,none⟩) (by show w.heap.size≠aC;omega) _
   have cU:Bk eW (w.heap.size+1) 140 (C7 (J8 20)):=by rw[aQ];exact dX.putFar (p:=⟨aC,0,none⟩) (by show w.heap.size+1≠aC;omega) _
   have cV:Bk eW (p5) 138 (C7 F0):=by rw[aQ];exact dY.putFar (p:=⟨aC,0,none⟩) (by show p5≠aC;omega) _
   have bH:Bk eW (bD) 205 (C7 (Pl Fa)):=by rw[aQ];exact dZ.putFar (p:=⟨aC,0,none⟩) (by show bD≠aC;omega) _
   have fX:Below w.heap.size w eW:=by rw[aQ];exact C1 iA (by show w.heap.size≤aC;omega) _
   have eX:E8 gZ ⟨aC,0,none⟩ 20=true:=Bk.can64 (cR) ((Em n m).row);have f20:=Bk.row64 (n:=640) (bH) ((show (Pl Fa).length=640 from by rw[X5 Il];simp));rw[aQ]at f20;have aE:(Gm (W8 n m)).row.length=20:=(Fc (W8 n m)).row;go_wp2_with fail;rw[←aQ];clear eX f20 aE;have fY:w.heap.size+2≤eW.heap.size:=by have hz:=iB;rw[aQ];first | (simp;omega) | (simp[World.setCell];omega)
   clear aQ dW dX dY dZ cR iA iB;go_loopw [20] (fun x20 wr=>∃i:Nat,0≤i∧i≤32∧x20=.int .i64 (i:Int)∧Bk wr (w.heap.size) 23 (c8 n)∧Bk wr (w.heap.size+1) 140 (C7 (J8 20))∧Bk wr (p5) 138 (C7 F0)∧Bk wr (bD) 205 (C7 (Pl Fa))∧Bk wr (aC) 140 (C7 (Z9 n s (Gm (W8 n m)) i).row)∧Below w.heap.size w wr∧w.heap.size+2≤wr.heap.size) (fun x20 _=>32-(intOf x20).toNat)
   case atStart=>exact ⟨0,by omega,by omega,rfl,cT,cU,cV,bH,cS,fX,fY⟩
   case round=>
    clear fX fY cT cU cV bH cS;obtain⟨i,iS,hi,rfl,aI,aF,aJ,aK,aD,dT,cQ⟩:=hrel;by_cases hlti:i<32
    ·
     have iT:decide ((i:Int)<32)=true:=decide_eq_true (by omega);have iU:(n8 (g8 n i >>> UInt8.ofNat s &&& 1)==1)=C0c n i s:=Qh (x:=g8 n i >>> UInt8.ofNat s &&& 1) (y:=1);obtain⟨cX,aA⟩:∃z,z=wr.alloc (Obj.cells (C7 (J8 20)).toArray 140):=⟨_,rfl⟩;have aW:wr.heap.size=wr.heap.size:=rfl;have bI:Bk cX (wr.heap.size) 140 (C7 (J8 20)):=by rw[aA,←aW];exact Bk.new wr _ _
     have eY:Bk cX (w.heap.size) 23 (c8 n):=by rw[aA];exact aI.alloc _
     have eZ:Bk cX (w.heap.size+1) 140 (C7 (J8 20)):=by rw[aA];exact aF.alloc _
     have fB:Bk cX (p5) 138 (C7 F0):=by rw[aA];exact aJ.alloc _
     have fC:Bk cX (bD) 205 (C7 (Pl Fa)):=by rw[aA];exact aK.alloc _
     have fD:Bk cX (aC) 140 (C7 (Z9 n s (Gm (W8 n m)) i).row):=by rw[aA];exact aD.alloc _
     have gL:Below w.heap.size w cX:=by rw[aA];exact dT.alloc dT.size _
     have aX:w.heap.size<wr.heap.size:=by rw[←aW];exact aI.lt
     have aY:w.heap.size+1<wr.heap.size:=by rw[←aW];exact aF.lt
     have aZ:p5<wr.heap.size:=by rw[←aW];exact aJ.lt
     have bB:bD<wr.heap.size:=by rw[←aW];exact aK.lt
     have bC:aC<wr.heap.size:=by rw[←aW];exact aD.lt
     have eC:w.heap.size+2≤wr.heap.size:=by rw[←aW];exact Nat.le_trans cQ (Nat.le_refl _)
     clear aW;obtain⟨cY,aB⟩:∃z,z=C9 cX ⟨wr.heap.size,0,none⟩ (C7 (Q4 Fa i).row):=⟨_,rfl⟩;have aG:Bk cY (wr.heap.size) 140 (C7 (Q4 Fa i).row):=by rw[aB];exact Bk.put64 (bI) ((show (J8 20).length=20 from by simp)) ((Il.at i).row)
     have aH:Bk cY (w.heap.size) 23 (c8 n):=by rw[aB];exact eY.putFar (p:=⟨wr.heap.size,0,none⟩) (by show w.heap.size≠wr.heap.size;omega) _
     have aT:Bk cY (w.heap.size+1) 140 (C7 (J8 20)):=by rw[aB];exact eZ.putFar (p:=⟨wr.heap.size,0,none⟩) (by show w.heap.size+1≠wr.heap.size;omega) _
     have aM:Bk cY (p5) 138 (C7 F0):=by rw[aB];exact fB.putFar (p:=⟨wr.heap.size,0,none⟩) (by show p5≠wr.heap.size;omega) _
     have aU:Bk cY (bD) 205 (C7 (Pl Fa)):=by rw[aB];exact fC.putFar (p:=⟨wr.heap.size,0,none⟩) (by show bD≠wr.heap.size;omega) _
     have aN:Bk cY (aC) 140 (C7 (Z9 n s (Gm (W8 n m)) i).row):=by rw[aB];exact fD.putFar (p:=⟨wr.heap.size,0,none⟩) (by show aC≠wr.heap.size;omega) _
     have dC:Below w.heap.size w cY:=by rw[aB];exact C1 gL (by show w.heap.size≤wr.heap.size;omega) _
     cases hb2:C0c n i s;case false=>
      have aO:E8 cX ⟨wr.heap.size,0,none⟩ 20=true:=Bk.can64 (bI) ((show (J8 20).length=20 from by simp));rw[aA]at aO;have fZ:=(aH).at_ (Fm (l:=n) (i:=i) (by have hh:n.length=32:=hn;omega));rw[aB,aA]at fZ;have aE:(Q4 Fa i).row.length=20:=(Il.at i).row;go_wp2_with fail;rw[←aA,←aB];clear aO fZ aE;obtain⟨iV,fE⟩:∃g,g=wr.heap.size:=⟨_,rfl⟩;rw[←fE]at aG aX aY aZ bB bC eC;try rw[←fE]
      have dD:w.heap.size+2≤cY.heap.size:=by have hz:=cQ;rw[aB,aA];first | (simp;omega) | (simp[World.setCell];omega)
      clear aA aB fE cQ;go_roundw;case rel=>exact ⟨i+1,by omega,by omega,by go_num,aH,aT,aM,aU,(by rw[B5z hb2];exact aN),dC,dD⟩
      case measure=>simp[intOf];omega
     case true=>
      have aO:E8 cX ⟨wr.heap.size,0,none⟩ 20=true:=Bk.can64 (bI) ((show (J8 20).length=20 from by simp));rw[aA]at aO;have fZ:=(aH).at_ (Fm (l:=n) (i:=i) (by have hh:n.length=32:=hn;omega));rw[aB,aA]at fZ;have iC:=Bk.row64 (n:=20) (aN) ((Gy n s (Fc (W8 n m)) i).row);rw[aB,aA]at iC;have iD:=Bk.row64 (n:=20) (aG) ((Il.at i).row);rw[aB,aA]at iD;have iE:=Bk.row64 (n:=5) (aM) (O7);rw[aB,aA]at iE;have aE:(Q4 Fa i).row.length=20:=(Il.at i).row;go_wp2_with fail;rw[←aA,←aB];clear aO fZ iC iD iE aE;obtain⟨iF,fF⟩:∃g,g=wr.heap.size:=⟨_,rfl⟩;rw[←fF]at aG aX aY aZ bB bC eC;try rw[←fF]
      have dD:w.heap.size+2≤cY.heap.size:=by have hz:=cQ;rw[aB,aA];first | (simp;omega) | (simp[World.setCell];omega)
      clear aA aB fF cQ;refine (Qw (Z9 n s (Gm (W8 n m)) i) (Q4 Fa i) F0 (Gy n s (Fc (W8 n m)) i) (Il.at i) O7 cY).mono ?_;rintro e iG ⟨rfl,dF⟩;have iH:=C0 dC dF dC.size;have iI:=Nat.le_trans dD dF.size;have eD:=aH.below dF aH.lt;have eE:=aT.below dF aT.lt;have eF:=aM.below dF aM.lt;have eG:=aU.below dF aU.lt;have cW:=aN.below dF aN.lt;have eH:=aG.below dF aG.lt;clear dF dC dD aH aT aM aU aN aG;obtain⟨eI,aR⟩:∃z,z=C9 iG ⟨aC,0,none⟩ (C7 (X6 (Z9 n s (Gm (W8 n m)) i) (Q4 Fa i) F0).row):=⟨_,rfl⟩;have fG:Bk eI (aC) 140 (C7 (X6 (Z9 n s (Gm (W8 n m)) i) (Q4 Fa i) F0).row):=by rw[aR];exact Bk.put64 (cW) ((Gy n s (Fc (W8 n m)) i).row) ((Db (Z9 n s (Gm (W8 n m)) i) (Q4 Fa i) F0).row)
      have fH:Bk eI (w.heap.size) 23 (c8 n):=by rw[aR];exact eD.putFar (p:=⟨aC,0,none⟩) (by show w.heap.size≠aC;omega) _
      have fI:Bk eI (w.heap.size+1) 140 (C7 (J8 20)):=by rw[aR];exact eE.putFar (p:=⟨aC,0,none⟩) (by show w.heap.size+1≠aC;omega) _
      have fJ:Bk eI (p5) 138 (C7 F0):=by rw[aR];exact eF.putFar (p:=⟨aC,0,none⟩) (by show p5≠aC;omega) _
      have fK:Bk eI (bD) 205 (C7 (Pl Fa)):=by rw[aR];exact eG.putFar (p:=⟨aC,0,none⟩) (by show bD≠aC;omega) _
      have gM:Bk eI (iF) 140 (C7 (Q4 Fa i).row):=by rw[aR];exact eH.putFar (p:=⟨aC,0,none⟩) (by show iF≠aC;omega) _
      have gN:Below w.heap.size w eI:=by rw[aR];exact C1 iH (by show w.heap.size≤aC;omega) _
      have fL:E8 iG ⟨aC,0,none⟩ 20=true:=Bk.can64 (cW) ((Gy n s (Fc (W8 n m)) i).row);have aE:(X6 (Z9 n s (Gm (W8 n m)) i) (Q4 Fa i) F0).row.length=20:=(Db (Z9 n s (Gm (W8 n m)) i) (Q4 Fa i) F0).row;go_wp2_with fail;rw[←aR];clear fL aE;have gO:w.heap.size+2≤eI.heap.size:=by have hz:=iI;rw[aR];first | (simp;omega) | (simp[World.setCell];omega)
      clear aR eD eE eF eG cW eH iH iI;go_roundw;case rel=>exact ⟨i+1,by omega,by omega,by go_num,fH,fI,fJ,fK,(by rw[B1h hb2 hlti];exact fG),gN,gO⟩
      case measure=>simp[intOf];omega
    ·
     obtain rfl:i=32:=by omega
     have iJ:((32:Nat):Int)=32:=rfl;rw[iJ];clear iJ;go_wp2_with fail;go_roundw;case rel=>exact ⟨m+1,by omega,by omega,by rw[←ES.out];all_goals (simp<;>omega),aI,aF,aJ,aK,(by rw[HM.out];exact aD),dT,cQ⟩
     case measure=>have:=ES.out;simp[intOf]<;>omega
  ·
   obtain rfl:m=8:=by omega
   obtain⟨fM,aV⟩:∃z,z=C9 wr ⟨w.heap.size+1,0,none⟩ (C7 (W8 n 8).row):=⟨_,rfl⟩;have fN:Bk fM (w.heap.size+1) 140 (C7 (W8 n 8).row):=by rw[aV];exact Bk.put64 (aF) ((show (J8 20).length=20 from by simp)) ((Em n 8).row)
   have gP:Bk fM (w.heap.size) 23 (c8 n):=by rw[aV];exact aI.putFar (p:=⟨w.heap.size+1,0,none⟩) (by show w.heap.size≠w.heap.size+1;omega) _
   have gQ:Bk fM (p5) 138 (C7 F0):=by rw[aV];exact aJ.putFar (p:=⟨w.heap.size+1,0,none⟩) (by show p5≠w.heap.size+1;omega) _
   have gR:Bk fM (bD) 205 (C7 (Pl Fa)):=by rw[aV];exact aK.putFar (p:=⟨w.heap.size+1,0,none⟩) (by show bD≠w.heap.size+1;omega) _
   have gS:Bk fM (aC) 140 (C7 (W8 n 8).row):=by rw[aV];exact aD.putFar (p:=⟨w.heap.size+1,0,none⟩) (by show aC≠w.heap.size+1;omega) _
   have gT:Below w.heap.size w fM:=by rw[aV];exact C1 dT (by show w.heap.size≤w.heap.size+1;omega) _
   have iN:=Bk.row64 (n:=20) (aD) ((Em n 8).row);have fO:E8 wr ⟨w.heap.size+1,0,none⟩ 20=true:=Bk.can64 (aF) ((show (J8 20).length=20 from by simp));have aE:(W8 n 8).row.length=20:=(Em n 8).row;go_wp2_with fail;rw[←aV];clear iN fO aE;have iO:w.heap.size+2≤fM.heap.size:=by have hz:=cQ;rw[aV];first | (simp;omega) | (simp[World.setCell];omega)
   clear aV cQ;have gU:(W8 n 8).row.length=20:=(Em n 8).row;refine bodyPost_ret (E9 rfl _ _ _ _ _ _ rfl fN Hc rfl (by simp[Rj,gU])) rfl ⟨rfl,gT⟩
end Go.Proofs.YtlegpkdighoflaaGreat
