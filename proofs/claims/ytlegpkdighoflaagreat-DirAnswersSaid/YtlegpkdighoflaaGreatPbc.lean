/- A part of the proof of DirAnswers. -/
import Derived.Test.YtlegpkdighoflaaGreatPau
import Derived.Test.YtlegpkdighoflaaGreatPbb
set_option linter.unusedVariables false
set_option linter.unusedSimpArgs false
set_option maxRecDepth 100000
set_option maxHeartbeats 40000000
namespace Go.Proofs.YtlegpkdighoflaaGreat
open Go Go.RowKit Sh
theorem By.same {w:World} {lo B:Nat} {v:Value} {l:List UInt8} (h:By w lo B v l):By w lo B v l:=h
theorem B7h (seed:List UInt8) (bv:Value) (body:List UInt8) (hs:seed.length=32) (w:World) (hb:By w 0 w.heap.size bv body) (hbl:body.length≤1000000):Calls Tryz.prog 43 #[A8 seed,.int .u8 1,bv] w fun e w'=>e=.returned (A8 (Je seed 1 body))∧Below w.heap.size w w':=C3f seed 1 bv body hs w hb hbl
theorem B4b (key:List UInt8) (bv:Value) (body sig:List UInt8) (hk:key.length=32) (hg:sig.length=64) (w:World) (hb:By w 0 w.heap.size bv body) (hbl:body.length≤1000000):Calls Tryz.prog 50 #[A8 key,.int .u8 1,bv,A8 sig] w fun e w'=>e=.returned (.bool (Hw key 1 body sig))∧Below w.heap.size w w':=B8q key 1 bv body sig hk hg w hb hbl
noncomputable def mkU (seed:List UInt8) (ver:Int) (key:List UInt8):UV:=⟨Cs seed,ver,key,Je seed 1 (Aq ver key)⟩
theorem C1w (seed:List UInt8) (ver:Int) {key:List UInt8} (hk:key.length=32):(mkU seed ver key).Ok:=⟨Gi _,hk,Iz _ _ _⟩
theorem B0b (seed:List UInt8) (ver:Int) (key:List UInt8) (hs:seed.length=32) (hk:key.length=32) (w:World):Calls Tryz.prog 18 #[A8 seed,.int .i64 ver,A8 key] w fun e w'=>e=.returned (Uk (mkU seed ver key))∧Below w.heap.size w w':=by
 obtain⟨W0,aO⟩:=F9 ((((w.alloc (Obj.cells (c8 seed).toArray 23)).alloc (Obj.cells (c8 key).toArray 23)).alloc (Obj.cells (Cl (Py 129)).toArray 63)));have hL:W0=M9 w [(23,(c8 seed)),(23,(c8 key)),(63,(Cl (Py 129)))]:=aO;have B0:=Ki hL;have aA:=Ko hL rfl;have aB:=Ig 1 hL rfl;have aF:=Ig 2 hL rfl;clear hL;go_enter Tryz.func18,Tryz.ntmps18;go_wp2_with fail;rw[←aO];clear aO;have S1:=Fx W0;refine Fa (fun W=>Bk W (w.heap.size) 23 (c8 seed)∧Bk W (w.heap.size+1) 23 (c8 key)) ?_;refine Df (A:=?bE) [0,2,3,4,5,6] ⟨(aA.drew),(aB.drew)⟩ (fun W hW=>?bC) ?bF;case bC=>
  have f0:=Bk.row8 (n:=32) (hW.1) (hs);have f3:=Bk.row8 (n:=32) (hW.2) (hk);exact Ei
 refine J8 [zv 1 8 (A8 (Cs seed)),zb 7 14 (Aq ver key),zv 8 15 (A8 (Je seed 1 (Aq ver key))),zv 9 16 (Uk (⟨(Cs seed),ver,key,(Je seed 1 (Aq ver key))⟩:UV))] (by kernel_rfl) (fun W hW=>⟨(aA.drew.bl hW),(aB.drew.bl hW)⟩) ?aG ?aH ?aI;case aG=>exact Ln
 case aH=>
  refine (P5 ⟨?aP,(P5 ⟨?aQ,(P5 ⟨?aR,(P5 ⟨?aS,Kh⟩)⟩)⟩)⟩);case aP=>
   exact KG' fun W=>B3b seed hs W
  case aQ=>intro o ho us W hW hp Q' hQ';obtain rfl:=Option.some.inj ho;have aC:us 1=(A8 (Cs seed)):=hp 0 _ rfl (by kernel_rfl);clear hp ho;rw[C7]at hQ' ⊢;dsimp only[F0,H8,List.foldl,zv,za,zs,zp,zb]at hQ' ⊢;simp only[Ch];rw[aC]at hQ' ⊢;clear aC;go_wp2_with fail;refine (A7o ver key hk W).mono ?_;rintro e W2 ⟨v2,rfl,aT,b2⟩;have aT:=Lib.hid aT;go_wp2_with fail;exact Cz (hQ' _ _ b2 aT.out.same nofun)
  case aR=>intro o ho us W hW hp Q' hQ';obtain rfl:=Option.some.inj ho;have aU:By W 0 W.heap.size (us 7) (Aq ver key):=hp 1 _ rfl (by kernel_rfl);have aU:=Lib.hid aU;clear hp ho;rw[C7]at hQ' ⊢;dsimp only[F0,H8,List.foldl,zv,za,zs,zp,zb]at hQ' ⊢;simp only[Ch];go_wp2_with fail;refine (B7h seed _ (Aq ver key) hs W aU.out (by rw[Vv ver hk];decide)).mono ?_;rintro e W2 ⟨rfl,b2⟩;go_wp2_with fail;exact Cz (hQ' _ _ b2 rfl nofun)
  case aS=>intro o ho us W hW hp Q' hQ';obtain rfl:=Option.some.inj ho;have aC:us 1=(A8 (Cs seed)):=hp 0 _ rfl (by kernel_rfl);have aJ:us 8=(A8 (Je seed 1 (Aq ver key))):=hp 2 _ rfl (by kernel_rfl);clear hp ho;rw[C7]at hQ' ⊢;dsimp only[F0,H8,List.foldl,zv,za,zs,zp,zb]at hQ' ⊢;simp only[Ch];rw[aC,aJ]at hQ' ⊢;clear aC aJ;have c0:(Cs seed).length=32:=(Gi seed);have c2:key.length=32:=hk;have c3:(Je seed 1 (Aq ver key)).length=64:=(Iz seed 1 (Aq ver key));go_wp2_with fail;exact Cz (hQ' _ _ (Below.refl _ _) rfl nofun)
 case aI=>
 intro us W2 b3 hg aV bD;have aC:us 1=(A8 (Cs seed)):=hg _ (O8 0 rfl);have bA:By W2 0 W2.heap.size (us 7) (Aq ver key):=hg _ (O8 1 rfl);have bA:=Lib.hid bA;have aJ:us 8=(A8 (Je seed 1 (Aq ver key))):=hg _ (O8 2 rfl);have bB:us 9=(Uk (⟨(Cs seed),ver,key,(Je seed 1 (Aq ver key))⟩:UV)):=hg _ (O8 3 rfl);have b4:=K9 S1 b3;refine RG' ?_;rw[aC,aJ,bB];clear hg aV bD aC aJ bB b3 S1;have B2:=K9 B0 b4;have aK:=aA.bl b4;have aL:=aB.bl b4;have aD:=aF.bl b4;clear b4 B0 aA aB aF;obtain⟨W5,aE⟩:=F9 (D8 W2 ⟨w.heap.size+2,0,none⟩ (Cl (⟨(Cs seed),ver,key,(Je seed 1 (Aq ver key))⟩:UV)));have aW:Bk W5 (w.heap.size+2) 63 (Cl (⟨(Cs seed),ver,key,(Je seed 1 (Aq ver key))⟩:UV)):=by rw[aE];exact Bk.putvc (aD) (((Kk 129).len)) (((⟨(Gi seed),hk,(Iz seed 1 (Aq ver key))⟩:UV.Ok (⟨(Cs seed),ver,key,(Je seed 1 (Aq ver key))⟩:UV)).len))
 have aX:=J3 aE aK (by omega);have aY:=J3 aE aL (by omega);have B5:=Bi aE B2 (by omega);have aM:=Bk.canvc (aD) (((Kk 129).len));have aN:(⟨(Cs seed),ver,key,(Je seed 1 (Aq ver key))⟩:UV).length=129:=((⟨(Gi seed),hk,(Iz seed 1 (Aq ver key))⟩:UV.Ok (⟨(Cs seed),ver,key,(Je seed 1 (Aq ver key))⟩:UV)).len);refine U7 10 fun Q' hQ'=>?_;dsimp only[F0];go_wp2_with fail;rw[←aE];refine hQ' _ _ ⟨aX,aY⟩ ?_;clear hQ' aM aN;clear aE B2 aK aL aD;refine Ef ?_;go_wp2_with fail;have aZ:(⟨(Cs seed),ver,key,(Je seed 1 (Aq ver key))⟩:UV).length=129:=((⟨(Gi seed),hk,(Iz seed 1 (Aq ver key))⟩:UV.Ok (⟨(Cs seed),ver,key,(Je seed 1 (Aq ver key))⟩:UV)).len);refine bodyPost_ret (E5 rfl _ _ _ _ _ _ rfl aW Wn rfl (by simp[A7f,aZ,Fr])) rfl ⟨rfl,B5⟩
noncomputable def signedB (u:UV):Bool:=decide (1≤u.ver)&&(decide (u.ver≤64)&&Hw u.id 1 (Aq u.ver u.key) u.sig)
theorem B2h {u:UV} (h:decide (1≤u.ver)=false):signedB u=false:=by unfold signedB;rw[h,Bool.false_and]
theorem B4m {u:UV} (h:decide (u.ver≤64)=false):signedB u=false:=by unfold signedB;rw[h,Bool.false_and,Bool.and_false]
theorem A0z {u:UV} (h:decide (1≤u.ver)=true) (h2:decide (u.ver≤64)=true):signedB u=Hw u.id 1 (Aq u.ver u.key) u.sig:=by unfold signedB;rw[h,h2,Bool.true_and,Bool.true_and]
theorem A2d (u:UV) (hu:u.Ok) (w:World):Calls Tryz.prog 27 #[Uk u] w fun e w'=>e=.returned (.bool (signedB u))∧Below w.heap.size w w':=by
 have aT:=hu.id;have aU:=hu.key;have aV:=hu.sig;have aW:=hu.len;obtain⟨W0,aE⟩:=F9 ((w.alloc (Obj.cells (Cl u).toArray 63)));have hL:W0=M9 w [(63,(Cl u))]:=aE;have B0:=Ki hL;have aC:=Ko hL rfl;clear hL;by_cases h1:1≤u.ver
 ·
  by_cases h2:u.ver≤64
  ·
   have d1:=decide_eq_true h1;have d2:=decide_eq_true h2;have HV:=Lib.hid (A0z d1 d2);go_enter Tryz.func27,Tryz.ntmps27;go_wp2_with fail;rw[←aE];clear aE;have S1:=Fx W0;refine Fa (fun W=>Bk W (w.heap.size) 63 (Cl u)) ?_;refine Df (A:=?aX) [0,1,2,3,4,5,6,7,8,9,10,11,12,13,14,16,17] (aC.drew) (fun W hW=>?aQ) ?aY;case aQ=>have f1:=UV.loadver (hW) hu;have Xp:=UV.loadid (hW) hu;have aZ:=UV.loadkey (hW) hu;have bA:=UV.loadsig (hW) hu;exact Ei
   refine Tx [zb 15 18 (Aq u.ver u.key),zv 18 21 (.bool (Hw u.id 1 (Aq u.ver u.key) u.sig)),zv 19 22 (.bool (Hw u.id 1 (Aq u.ver u.key) u.sig)),zv 20 2 (.bool (Hw u.id 1 (Aq u.ver u.key) u.sig))] (by kernel_rfl) ?aR (fun W hW=>(aC.drew.bl hW)) ?aF ?aG ?aH;case aF=>exact Ln
   case aR=>exact (P5 ⟨(fun o ho us=>by obtain rfl:=Option.some.inj ho;kernel_rfl),(P5 ⟨(fun o ho us=>by obtain rfl:=Option.some.inj ho;kernel_rfl),(P5 ⟨(fun o ho us=>by obtain rfl:=Option.some.inj ho;kernel_rfl),(P5 ⟨(fun o ho us=>by obtain rfl:=Option.some.inj ho;kernel_rfl),Kh⟩)⟩)⟩)⟩)
   case aG=>
    refine (P5 ⟨?aI,(P5 ⟨?aJ,(P5 ⟨?aK,(P5 ⟨?aL,Kh⟩)⟩)⟩)⟩);case aI=>
     intro o ho us W hW hp Q' hQ';obtain rfl:=Option.some.inj ho;clear hp ho;rw[C7]at hQ' ⊢;dsimp only[F0,H8,List.foldl,zv,za,zs,zp,zb]at hQ' ⊢;simp only[Ch];go_wp2_with fail;refine (A7o u.ver u.key hu.key W).mono ?_;rintro e W2 ⟨v2,rfl,aO,b2⟩;have aO:=Lib.hid aO;go_wp2_with fail;exact Cz (hQ' _ _ b2 aO.out.same nofun)
    case aJ=>intro o ho us W hW hp Q' hQ';obtain rfl:=Option.some.inj ho;have aB:By W 0 W.heap.size (us 15) (Aq u.ver u.key):=hp 0 _ rfl (by kernel_rfl);have aB:=Lib.hid aB;clear hp ho;rw[C7]at hQ' ⊢;dsimp only[F0,H8,List.foldl,zv,za,zs,zp,zb]at hQ' ⊢;simp only[Ch];go_wp2_with fail;refine (B4b u.id _ (Aq u.ver u.key) u.sig hu.id hu.sig W aB.out (by rw[Vv u.ver hu.key];decide)).mono ?_;rintro e W2 ⟨rfl,b2⟩;go_wp2_with fail;exact Cz (hQ' _ _ b2 rfl nofun)
    case aK=>intro o ho us W hW hp Q' hQ';obtain rfl:=Option.some.inj ho;have aA:us 18=(.bool (Hw u.id 1 (Aq u.ver u.key) u.sig)):=hp 1 _ rfl (by kernel_rfl);clear hp ho;rw[C7]at hQ' ⊢;dsimp only[F0,H8,List.foldl,zv,za,zs,zp,zb]at hQ' ⊢;simp only[Ch];rw[aA]at hQ' ⊢;clear aA;go_wp2_with fail;exact Cz (hQ' _ _ (Below.refl _ _) rfl nofun)
    case aL=>intro o ho us W hW hp Q' hQ';obtain rfl:=Option.some.inj ho;have aB:By W 0 W.heap.size (us 15) (Aq u.ver u.key):=hp 0 _ rfl (by kernel_rfl);have aB:=Lib.hid aB;have aA:us 18=(.bool (Hw u.id 1 (Aq u.ver u.key) u.sig)):=hp 1 _ rfl (by kernel_rfl);have aD:us 19=(.bool (Hw u.id 1 (Aq u.ver u.key) u.sig)):=hp 2 _ rfl (by kernel_rfl);clear hp ho;rw[C7]at hQ' ⊢;dsimp only[F0,H8,List.foldl,zv,za,zs,zp,zb]at hQ' ⊢;simp only[Ch];rw[aA,aD]at hQ' ⊢;clear aA aD;go_wp2_with fail;exact Cz (hQ' _ _ (Below.refl _ _) rfl nofun)
   case aH=>
   intro us W2 b3 hg aP aS;have aM:By W2 0 W2.heap.size (us 15) (Aq u.ver u.key):=hg _ (O8 0 rfl);have aM:=Lib.hid aM;have aA:us 18=(.bool (Hw u.id 1 (Aq u.ver u.key) u.sig)):=hg _ (O8 1 rfl);have aD:us 19=(.bool (Hw u.id 1 (Aq u.ver u.key) u.sig)):=hg _ (O8 2 rfl);have aN:us 20=(.bool (Hw u.id 1 (Aq u.ver u.key) u.sig)):=hg _ (O8 3 rfl);have b4:=K9 S1 b3;refine RG' ?_;rw[aA,aD,aN];clear hg aP aS aA aD aN b3 S1;have B2:=K9 B0 b4;clear b4 B0 aC;refine Ef ?_;go_wp2_with fail;go_ret;exact ⟨by rw[HV.out];rfl,B2⟩
  ·
   have d1:=decide_eq_true h1;have d2:=decide_eq_false h2;have HV:=Lib.hid (B4m d2);have fv:=UV.loadver aC hu;rw[aE]at fv;go_enter Tryz.func27,Tryz.ntmps27;go_wp2_with fail;go_quiet (fail);rw[←aE];go_wp2_with fail;go_ret;exact ⟨by rw[HV.out];rfl,N7 B0 _⟩
 ·
  have d1:=decide_eq_false h1;have HV:=Lib.hid (B2h d1);have fv:=UV.loadver aC hu;rw[aE]at fv;go_enter Tryz.func27,Tryz.ntmps27;go_wp2_with fail;go_quiet (fail);rw[←aE];go_wp2_with fail;go_ret;exact ⟨by rw[HV.out];rfl,N7 B0 _⟩
theorem B4z (W:World) (c:Int) (b:UInt8) (hc:c=n8 b):By (W.alloc (.cells #[.int .u8 c] 5)) 0 (W.alloc (.cells #[.int .u8 c] 5)).heap.size (.slice (some ⟨W.heap.size,0,none⟩) 1 1) [b]:=by
 have:=By.build W 5 (0,0) [b] (by simp);subst hc;simpa [v8] using this
theorem B6l {a b c:List UInt8} {x y z:Nat} (h1:a.length=x) (h2:b.length=y) (h3:c.length=z) (hs:x+y+z≤1099511627776):[a,b,c].flatten.length≤1099511627776:=by simp[h1,h2,h3];omega
def Iy (ls:List (List UInt8)):List UInt8:=Gd ls.flatten
@[simp, go_sem] theorem Bw (ls : List (List UInt8)) : (Iy ls).length = 32 := Dc _
theorem B6f (v:Value) (ls:List (List UInt8)) (w:World) (hp:N8 w w.heap.size v ls) (hsz:ls.flatten.length≤1099511627776) :
 Calls Tryz.prog 53 #[v] w fun e w'=>e=.returned (A8 (Iy ls))∧Below w.heap.size w w':=Me v ls w hp hsz
def U5 (ks:List (List UInt8)):Nat→List UInt8
 | 0=>z8 32
 | i+1=>Iy [[3],U5 ks i,gl ks i]
@[simp, go_sem] theorem Az (ks : List (List UInt8)) : ∀ i, (U5 ks i).length = 32
 | 0=>by simp[U5]
 | i+1=>Bw _
def Dk (ks:List (List UInt8)):List UInt8:=Iy [[2],U0 (UInt64.ofNat ks.length),U5 ks ks.length]
theorem Gu (ks:List (List UInt8)):(Dk ks).length=32:=Bw _
theorem Ti (v:Value) (ks:List (List UInt8)) (w:World) (hv:Hs w 0 w.heap.size v ks) (hkn:ks.length≤1000000):Calls Tryz.prog 31 #[v] w fun e w'=>e=.returned (A8 (Dk ks))∧Below w.heap.size w w':=by
 obtain⟨A,c,rfl,dM,dT⟩:=hv.form;have HV:=Lib.hid hv;have cW:=hv.1;obtain⟨n,hn⟩:=F9 (ks.length);have hw:IntKind.u64.wrap (n:Int)=J4 (UInt64.ofNat n):=by rw[Gq];unfold J4;simp
 have HN:=Lib.hid hn;rw[←hn]at dM hkn ⊢;have dN:=Lib.hid cW;clear hv cW hn;have HE:Hid (Dk ks=Iy [[2],U0 (UInt64.ofNat n),U5 ks n]):=Lib.hid (by rw[HN.out];rfl);obtain⟨W0,cH⟩:=F9 ((w.alloc (Obj.cells (c8 (z8 32)).toArray 23)));have hL:W0=M9 w [(23,(c8 (z8 32)))]:=cH;have B0:=Ki hL;have bH:=Ko hL rfl;have z0:=Za 1 hL rfl;have cX:=SL' 1 hL rfl;clear hL;obtain⟨V1,bD⟩:=F9 (W0.alloc (Obj.cells (c8 (z8 32)).toArray 23));have cY:W0.heap.size=w.heap.size+1:=cX;have aL:Bk V1 (w.heap.size+1) 23 (c8 (z8 32)):=by rw[bD,←cY];exact Bk.new W0 _ _
 have aM:=Ac bD bH;have cZ:=Lk bD B0;clear cY;go_enter Tryz.func31,Tryz.ntmps31;go_wp2_with fail;rw[←cH,←bD];have dB:=ZA' bD z0;clear cH bD cX bH B0 z0;go_loopw [8] (fun x8 wr=>∃m:Nat,0≤m∧m≤n∧x8=.int .i64 (m:Int)∧Bk wr (w.heap.size) 23 (c8 (z8 32))∧Bk wr (w.heap.size+1) 23 (c8 (U5 ks m))∧Below w.heap.size w wr∧w.heap.size+1≤wr.heap.size) (fun x8 _=>n-(intOf x8).toNat)
 case atStart=>exact ⟨0,by omega,by omega,rfl,aM,aL,cZ,dB⟩
 case round=>
  clear cZ dB aM aL;obtain⟨m,bE,hm,rfl,aA,aB,cE,cF⟩:=hrel;by_cases hltm:m<n
  ·
   have hd:decide ((m:Int)<(n:Int))=true:=decide_eq_true (by omega);have dU:=decide_eq_true hltm;obtain⟨kk,aT⟩:=F9 (gl ks m);have bE:m<ks.length:=by rw[←HN.out];exact hltm
   have cI:ks[m]?=some kk:=by rw[aT];unfold gl;rw[List.getElem?_eq_getElem bE];simp[bE]
   have cG:=dN.out kk (List.mem_of_getElem? cI);have HD:Hid (U5 ks (m+1)=Iy [[3],U5 ks m,kk]):=Lib.hid (by rw[aT];rfl);obtain⟨g,o,hA,hg,bI⟩:∃g o,A=some ⟨g,o,none⟩∧g<w.heap.size∧J1 w ⟨g,o+m*32,none⟩ 32=some (c8 kk):=by
    obtain⟨g,o,c',hh⟩:=HV.out.row;rcases hh with ⟨hr,_,hg,hA,_,_⟩ | h0
    ·injection hA with hA;exact ⟨g,o,hA,hg,hr m kk cI⟩
    ·rw[h0]at bE;simp at bE
   subst hA;have dO:=(Q4 (a:=⟨g,o+m*32,none⟩) cE hg).trans bI;clear aT bE cI bI;obtain⟨V2,aN⟩:=F9 (wr.alloc (Obj.cells (c8 (z8 32)).toArray 23));have bJ:wr.heap.size=wr.heap.size:=rfl;have aC:Bk V2 (wr.heap.size) 23 (c8 (z8 32)):=by rw[aN,←bJ];exact Bk.new wr _ _
   have aO:=Ac aN aA;have aP:=Ac aN aB;have dC:=Lk aN cE;have aD:=Aj bJ aA;have aE:=Aj bJ aB;have bK:w.heap.size+1≤wr.heap.size:=by rw[←bJ];exact Nat.le_trans cF (Nat.le_refl _)
   clear bJ;obtain⟨V3,aU⟩:=F9 (D8 V2 ⟨wr.heap.size,0,none⟩ (c8 kk));have aF:=P8' 32 aU aC (by simp) cG;have aQ:=J3 aU aO (by omega);have aG:=J3 aU aP (by omega);have dD:=Bi aU dC (by omega);have cJ:=dO;have aR:=C8' 32 aC (by simp);rw[aN]at aR;have cK:kk.length=32:=cG;go_wp2_with fail;rw[←aN,←aU];clear cJ aR cK;obtain⟨p4,cL⟩:=F9 (wr.heap.size);rw[←cL]at aF aD aE bK;try rw[←cL]
   have dE:w.heap.size+1≤V3.heap.size:=by have hz:=cF;rw[aU,aN];first | (simp;omega) | (simp[World.setCell];omega)
   clear aN aU cL cF aO aP aC dC;have S5:=Fx V3;refine Fa (fun W=>True) ?_;refine Df (A:=?dV) [1,2] trivial (fun W hW=>?dP) ?dW;case dP=>
    exact Ei
   refine J8 [zb 0 12 [3],zs 3 15 3 [[3],(U5 ks m),kk],zv 4 16 (A8 (Iy [[3],(U5 ks m),kk]))] (by kernel_rfl) (fun W hW=>trivial) ?bL ?bM ?bN;case bL=>exact Ln
   case bM=>
    refine (P5 ⟨?cM,(P5 ⟨?cN,(P5 ⟨?cO,Kh⟩)⟩)⟩);case cM=>
     intro o ho us W hW hp Q' hQ';obtain rfl:=Option.some.inj ho;clear hp ho;rw[C7]at hQ' ⊢;dsimp only[F0,H8,List.foldl,zv,za,zs,zp,zb]at hQ' ⊢;simp only[Ch];go_wp2_with fail;exact Cz (hQ' _ _ (Aw _ _) (B4z W 3 _ rfl) nofun)
    case cN=>intro o ho us W hW hp Q' hQ';obtain rfl:=Option.some.inj ho;have aH:By W 0 W.heap.size (us 0) [3]:=hp 0 _ rfl (by kernel_rfl);obtain⟨A0,n0,c0,aV⟩:=aH.formE;rw[aV]at aH;have aH:=Lib.hid aH;clear hp ho;rw[C7]at hQ' ⊢;dsimp only[F0,H8,List.foldl,zv,za,zs,zp,zb]at hQ' ⊢;simp only[Ch];rw[aV]at hQ' ⊢;clear aV;have aI:=aG.drew.bl hW;have bO:=aF.drew.bl hW;go_wp2_with fail;exact Cz (hQ' _ _ (Aw _ _) ⟨_,rfl,(N8.three W _ _ _ _ [3] (U5 ks m) kk aH.out (Bk.byAll (aI) (Az ks m) (by decide)) (Bk.byAll (bO) cG (by decide))).more (by simp)⟩ nofun)
    case cO=>
     intro o ho us W hW hp Q' hQ';obtain rfl:=Option.some.inj ho;obtain⟨dF,bP,bQ⟩:=hp 1 _ rfl (by kernel_rfl);have bP:us 3=.slice (some ⟨dF,0,none⟩) 3 3:=bP;have bQ:N8 W W.heap.size (.slice (some ⟨dF,0,none⟩) 3 3) [[3],(U5 ks m),kk]:=by rw[←bP];exact bQ
     have bQ:=Lib.hid bQ;clear hp ho;rw[C7]at hQ' ⊢;dsimp only[F0,H8,List.foldl,zv,za,zs,zp,zb]at hQ' ⊢;simp only[Ch];rw[bP]at hQ' ⊢;clear bP;go_wp2_with fail;refine (B6f _ [[3],(U5 ks m),kk] W bQ.out (B6l rfl (Az ks m) cG (by decide))).mono ?_;rintro e W2 ⟨rfl,b2⟩;go_wp2_with fail;exact Cz (hQ' _ _ b2 rfl nofun)
   case bN=>
   intro us W6 b7 hg aW cP;have bR:By W6 0 W6.heap.size (us 0) [3]:=hg _ (O8 0 rfl);have bR:=Lib.hid bR;have bF:us 4=(A8 (Iy [[3],(U5 ks m),kk])):=hg _ (O8 2 rfl);have b8:=K9 S5 b7;refine RG' ?_;rw[bF];clear hg aW cP bF b7 S5;have B6:=K9 dD b8;have z6:=Nat.le_trans dE b8.size;have bS:=aQ.bl b8;have aX:=aG.bl b8;clear b8 dD dE aQ aG aF;obtain⟨W9,bG⟩:=F9 (D8 W6 ⟨w.heap.size+1,0,none⟩ (c8 (Iy [[3],(U5 ks m),kk])));have cQ:Bk W9 (w.heap.size+1) 23 (c8 (Iy [[3],(U5 ks m),kk])):=by rw[bG];exact Bk.put8 (aX) ((Az ks m)) ((Bw [[3],(U5 ks m),kk]))
   have cR:=J3 bG bS (by omega);have B9:=Bi bG B6 (by omega);have bT:=C8' 32 aX (Az ks m);have bU:(Iy [[3],(U5 ks m),kk]).length=32:=(Bw [[3],(U5 ks m),kk]);refine U7 5 fun Q' hQ'=>?_;dsimp only[F0];go_wp2_with fail;rw[←bG];refine hQ' _ _ trivial ?_;clear hQ' bT bU;have z9:=Il bG z6;clear bG B6 z6 bS aX;refine Ef ?_;go_wp2_with fail;go_roundw;case rel=>exact ⟨m+1,by omega,by omega,by go_num,cR,(by rw[HD.out];exact cQ),B9,z9⟩
   case measure=>simp[intOf];omega
  ·
   obtain rfl:n=m:=by omega
   go_wp2_with fail;have dG:=Fx wr;refine Fa (fun W=>True) ?_;refine Df (A:=?dQ) [1,2,3,5] trivial (fun W hW=>?cS) ?dR;case cS=>
    exact Ei
   refine J8 [zb 0 18 [2],zb 4 22 (U0 (UInt64.ofNat n)),zs 6 24 3 [[2],(U0 (UInt64.ofNat n)),(U5 ks n)],zv 7 25 (A8 (Iy [[2],(U0 (UInt64.ofNat n)),(U5 ks n)]))] (by kernel_rfl) (fun W hW=>trivial) ?aY ?aZ ?bA;case aY=>exact Ln
   case aZ=>
    refine (P5 ⟨?bV,(P5 ⟨?bX,(P5 ⟨?bY,(P5 ⟨?bZ,Kh⟩)⟩)⟩)⟩);case bV=>
     intro o ho us W hW hp Q' hQ';obtain rfl:=Option.some.inj ho;clear hp ho;rw[C7]at hQ' ⊢;dsimp only[F0,H8,List.foldl,zv,za,zs,zp,zb]at hQ' ⊢;simp only[Ch];go_wp2_with fail;exact Cz (hQ' _ _ (Aw _ _) (B4z W 2 _ rfl) nofun)
    case bX=>intro o ho us W hW hp Q' hQ';obtain rfl:=Option.some.inj ho;clear hp ho;rw[C7]at hQ' ⊢;dsimp only[F0,H8,List.foldl,zv,za,zs,zp,zb]at hQ' ⊢;simp only[Ch];go_wp2_with fail;refine (Rg (.slice none 0 0) [] (UInt64.ofNat n) W (.inl ⟨rfl,rfl⟩) (by simp)).mono ?_;rintro e W2 ⟨v2,rfl,cT,b2⟩;have cT:=Lib.hid cT;go_wp2_with fail;exact Cz (hQ' _ _ b2 cT.out.up nofun)
    case bY=>intro o ho us W hW hp Q' hQ';obtain rfl:=Option.some.inj ho;have aH:By W 0 W.heap.size (us 0) [2]:=hp 0 _ rfl (by kernel_rfl);obtain⟨A0,n0,c0,aV⟩:=aH.formE;rw[aV]at aH;have aH:=Lib.hid aH;have aS:By W 0 W.heap.size (us 4) (U0 (UInt64.ofNat n)):=hp 1 _ rfl (by kernel_rfl);obtain⟨A4,n4,c4,bF⟩:=aS.formE;rw[bF]at aS;have aS:=Lib.hid aS;clear hp ho;rw[C7]at hQ' ⊢;dsimp only[F0,H8,List.foldl,zv,za,zs,zp,zb]at hQ' ⊢;simp only[Ch];rw[aV,bF]at hQ' ⊢;clear aV bF;have aI:=aB.drew.bl hW;go_wp2_with fail;exact Cz (hQ' _ _ (Aw _ _) ⟨_,rfl,(N8.three W _ _ _ _ [2] (U0 (UInt64.ofNat n)) (U5 ks n) aH.out aS.out (Bk.byAll (aI) (Az ks n) (by decide))).more (by simp)⟩ nofun)
    case bZ=>
     intro o ho us W hW hp Q' hQ';obtain rfl:=Option.some.inj ho;have aS:By W 0 W.heap.size (us 4) (U0 (UInt64.ofNat n)):=hp 1 _ rfl (by kernel_rfl);have aS:=Lib.hid aS;obtain⟨dH,cA,cB⟩:=hp 2 _ rfl (by kernel_rfl);have cA:us 6=.slice (some ⟨dH,0,none⟩) 3 3:=cA;have cB:N8 W W.heap.size (.slice (some ⟨dH,0,none⟩) 3 3) [[2],(U0 (UInt64.ofNat n)),(U5 ks n)]:=by rw[←cA];exact cB
     have cB:=Lib.hid cB;clear hp ho;rw[C7]at hQ' ⊢;dsimp only[F0,H8,List.foldl,zv,za,zs,zp,zb]at hQ' ⊢;simp only[Ch];rw[cA]at hQ' ⊢;clear cA;go_wp2_with fail;refine (B6f _ [[2],(U0 (UInt64.ofNat n)),(U5 ks n)] W cB.out (B6l rfl (Ys (UInt64.ofNat n)) (Az ks n) (by decide))).mono ?_;rintro e W2 ⟨rfl,b2⟩;go_wp2_with fail;exact Cz (hQ' _ _ b2 rfl nofun)
   case bA=>
   intro us cC dI hg aW cP;have bR:By cC 0 cC.heap.size (us 0) [2]:=hg _ (O8 0 rfl);have bR:=Lib.hid bR;have dJ:By cC 0 cC.heap.size (us 4) (U0 (UInt64.ofNat n)):=hg _ (O8 1 rfl);have dJ:=Lib.hid dJ;have dK:us 7=(A8 (Iy [[2],(U0 (UInt64.ofNat n)),(U5 ks n)])):=hg _ (O8 3 rfl);have cU:=K9 dG dI;refine RG' ?_;rw[dK];clear hg aW cP dK dI dG;have dL:=K9 cE cU;have aJ:=aA.bl cU;clear cU cE cF aA aB;obtain⟨dX,aK⟩:=F9 (D8 cC ⟨w.heap.size,0,none⟩ (c8 (Iy [[2],(U0 (UInt64.ofNat n)),(U5 ks n)])));have cD:=P8' 32 aK aJ (by simp) (Bw [[2],(U0 (UInt64.ofNat n)),(U5 ks n)]);have dS:=Bi aK dL (by omega);have bB:=C8' 32 aJ (by simp);have bC:(Iy [[2],(U0 (UInt64.ofNat n)),(U5 ks n)]).length=32:=(Bw [[2],(U0 (UInt64.ofNat n)),(U5 ks n)]);refine U7 8 fun Q' hQ'=>?_;dsimp only[F0];go_wp2_with fail;rw[←aK];refine hQ' _ _ trivial ?_;clear hQ' bB bC;clear aK dL aJ;refine Ef ?_;go_wp2_with fail;have cV:(Iy [[2],(U0 (UInt64.ofNat n)),(U5 ks n)]).length=32:=(Bw [[2],(U0 (UInt64.ofNat n)),(U5 ks n)]);refine bodyPost_ret (E5 rfl _ _ _ _ _ _ rfl cD Tryz.underlying23 rfl (by simp[P6,cV])) rfl ⟨by rw[HE.out];rfl,dS⟩
theorem Hs.at_ {w:World} {B:Nat} {A:Option Addr} {n c:Nat} {ks:List (List UInt8)} (h:Hs w 0 B (.slice A n c) ks) {m:Nat} {k:List UInt8} (hk:ks[m]?=some k):∃g o,A=some ⟨g,o,none⟩∧g<B∧J1 w ⟨g,o+m*32,none⟩ 32=some (c8 k):=by
 obtain⟨g,o,c',hh⟩:=h.row;rcases hh with ⟨hr,_,hg,hA,_,_⟩ | h0
 ·injection hA with hA;exact ⟨g,o,hA,hg,hr m k hk⟩
 ·rw[h0]at hk;simp at hk
theorem A5q (va vb:Value) (ks:List (List UInt8)) (w:World) (ha:Hs w 0 w.heap.size va ks) (hb:Hs w 0 w.heap.size vb ks):Calls Tryz.prog 12 #[va,vb] w fun e w'=>e=.returned (.bool true)∧Below w.heap.size w w':=by
 obtain⟨A,c,rfl,aE,aI⟩:=ha.form;obtain⟨A',c',rfl,aA,aF⟩:=hb.form;have HA:=Lib.hid ha;have HB:=Lib.hid hb;have aG:=Lib.hid ha.1;obtain⟨n,hn⟩:=F9 (ks.length);have HN:=Lib.hid hn;rw[←hn]at aE aA HA HB ⊢;clear ha hb hn;go_enter Tryz.func12,Tryz.ntmps12;go_wp2_with fail;go_loopw [13] (fun x wr=>∃m:Nat,m≤n∧x=.int .i64 (m:Int)∧Below w.heap.size w wr) (fun x _=>n-(intOf x).toNat)
 case atStart=>exact ⟨0,by omega,rfl,Below.refl _ _⟩
 case round=>
  obtain⟨m,hm,rfl,Br⟩:=hrel;by_cases hlt:m<n
  ·have hd:decide ((m:Int)<(n:Int))=true:=decide_eq_true (by omega);have aB:m<ks.length:=by rw[←HN.out];exact hlt
   obtain⟨k,hk⟩:∃k,ks[m]?=some k:=⟨_,List.getElem?_eq_getElem aB⟩;have aJ:=aG.out k (List.mem_of_getElem? hk);obtain⟨g,o,rfl,hg,hr⟩:=HA.out.at_ hk;obtain⟨g',o',rfl,aH,aC⟩:=HB.out.at_ hk;have r1:=(Q4 (a:=⟨g,o+m*32,none⟩) Br hg).trans hr;have r2:=(Q4 (a:=⟨g',o'+m*32,none⟩) Br aH).trans aC;have aD:(m:Int)<(n:Int):=by omega
   clear hk hr aC aB;go_wp2_with fail;go_quiet (fail);go_wp2_with fail;go_roundw;case rel=>exact ⟨m+1,by omega,by go_num,N7 Br _⟩
   case measure=>simp[intOf];omega
  ·obtain rfl:m=n:=by omega
   go_wp2_with fail;go_ret;exact ⟨rfl,Br⟩
theorem B5k (v:Value) (ls:List (List UInt8)) (w:World) (hp:N8 w w.heap.size v ls) (hsz:ls.flatten.length≤1099511627776) :
 Calls Tryz.prog 58 #[v] w fun e w'=>e=.returned (A8 (Iy ls))∧Below w.heap.size w w':=Tn v ls w hp hsz
theorem A6e (v:Value) (ks:List (List UInt8)) (w:World) (hv:Hs w 0 w.heap.size v ks) (hkn:ks.length≤1000000):Calls Tryz.prog 37 #[v] w fun e w'=>e=.returned (A8 (Dk ks))∧Below w.heap.size w w':=by
 obtain⟨A,c,rfl,dR,eB⟩:=hv.form;have HV:=Lib.hid hv;have dB:=hv.1;obtain⟨n,hn⟩:=F9 (ks.length);have hw:IntKind.u64.wrap (n:Int)=J4 (UInt64.ofNat n):=by rw[Gq];unfold J4;simp
 have HN:=Lib.hid hn;rw[←hn]at dR hkn ⊢;have dS:=Lib.hid dB;clear hv dB hn;have HE:Hid (Dk ks=Iy [[2],U0 (UInt64.ofNat n),U5 ks n]):=Lib.hid (by rw[HN.out];rfl);obtain⟨W0,cL⟩:=F9 ((w.alloc (Obj.cells (c8 (z8 32)).toArray 23)));have hL:W0=M9 w [(23,(c8 (z8 32)))]:=cL;have B0:=Ki hL;have bO:=Ko hL rfl;have z0:=Za 1 hL rfl;have dC:=SL' 1 hL rfl;clear hL;obtain⟨V1,aX⟩:=F9 (W0.alloc (Obj.cells (c8 (z8 32)).toArray 23));have dD:W0.heap.size=w.heap.size+1:=dC;have aD:Bk V1 (w.heap.size+1) 23 (c8 (z8 32)):=by rw[aX,←dD];exact Bk.new W0 _ _
 have aN:=Ac aX bO;have dE:=Lk aX B0;clear dD;obtain⟨V2,bL⟩:=F9 (D8 V1 ⟨w.heap.size+1,0,none⟩ (c8 (z8 32)));have aO:=P8' 32 bL aD (by simp) (by simp);have aP:=J3 bL aN (by omega);have dF:=Bi bL dE (by omega);have aQ:=C8' 32 aD (by simp);rw[aX,cL]at aQ;have aY:(z8 32).length=32:=(show (z8 32).length=32 from by simp);go_enter Tryz.func37,Tryz.ntmps37;go_wp2_with fail;rw[←cL,←aX,←bL];clear aQ aY;have dG:w.heap.size+1≤V2.heap.size:=by have hz:=z0;rw[bL,aX];first | (simp;omega) | (simp[World.setCell];omega)
 clear cL aX bL dC bO B0 z0 aN aD dE;go_loopw [9] (fun x9 wr=>∃m:Nat,0≤m∧m≤n∧x9=.int .i64 (m:Int)∧Bk wr (w.heap.size) 23 (c8 (z8 32))∧Bk wr (w.heap.size+1) 23 (c8 (U5 ks m))∧Below w.heap.size w wr∧w.heap.size+1≤wr.heap.size) (fun x9 _=>n-(intOf x9).toNat)
 case atStart=>exact ⟨0,by omega,by omega,rfl,aP,aO,dF,dG⟩
 case round=>
  clear dF dG aP aO;obtain⟨m,bM,hm,rfl,aA,aB,cM,cN⟩:=hrel;by_cases hltm:m<n
  ·
   have hd:decide ((m:Int)<(n:Int))=true:=decide_eq_true (by omega);have eC:=decide_eq_true hltm;obtain⟨kk,aZ⟩:=F9 (gl ks m);have bM:m<ks.length:=by rw[←HN.out];exact hltm
   have cP:ks[m]?=some kk:=by rw[aZ];unfold gl;rw[List.getElem?_eq_getElem bM];simp[bM]
   have cO:=dS.out kk (List.mem_of_getElem? cP);have HD:Hid (U5 ks (m+1)=Iy [[3],U5 ks m,kk]):=Lib.hid (by rw[aZ];rfl);obtain⟨g,o,hA,hg,bP⟩:∃g o,A=some ⟨g,o,none⟩∧g<w.heap.size∧J1 w ⟨g,o+m*32,none⟩ 32=some (c8 kk):=by
    obtain⟨g,o,c',hh⟩:=HV.out.row;rcases hh with ⟨hr,_,hg,hA,_,_⟩ | h0
    ·injection hA with hA;exact ⟨g,o,hA,hg,hr m kk cP⟩
    ·rw[h0]at bM;simp at bM
   subst hA;have dT:=(Q4 (a:=⟨g,o+m*32,none⟩) cM hg).trans bP;clear aZ bM cP bP;obtain⟨V3,aR⟩:=F9 (wr.alloc (Obj.cells (c8 (z8 32)).toArray 23));have bQ:wr.heap.size=wr.heap.size:=rfl;have aE:Bk V3 (wr.heap.size) 23 (c8 (z8 32)):=by rw[aR,←bQ];exact Bk.new wr _ _
   have aS:=Ac aR aA;have aT:=Ac aR aB;have dH:=Lk aR cM;have aF:=Aj bQ aA;have aG:=Aj bQ aB;have bR:w.heap.size+1≤wr.heap.size:=by rw[←bQ];exact Nat.le_trans cN (Nat.le_refl _)
   clear bQ;obtain⟨V4,bA⟩:=F9 (D8 V3 ⟨wr.heap.size,0,none⟩ (c8 kk));have aH:=P8' 32 bA aE (by simp) cO;have aU:=J3 bA aS (by omega);have aI:=J3 bA aT (by omega);have dI:=Bi bA dH (by omega);have cQ:=dT;have aV:=C8' 32 aE (by simp);rw[aR]at aV;have aY:kk.length=32:=cO;go_wp2_with fail;rw[←aR,←bA];clear cQ aV aY;obtain⟨p5,cR⟩:=F9 (wr.heap.size);rw[←cR]at aH aF aG bR;try rw[←cR]
   have dJ:w.heap.size+1≤V4.heap.size:=by have hz:=cN;rw[bA,aR];first | (simp;omega) | (simp[World.setCell];omega)
   clear aR bA cR cN aS aT aE dH;have S6:=Fx V4;refine Fa (fun W=>True) ?_;refine Df (A:=?eD) [1,2] trivial (fun W hW=>?dU) ?eE;case dU=>
    exact Ei
   refine J8 [zb 0 13 [3],zs 3 16 3 [[3],(U5 ks m),kk],zv 4 17 (A8 (Iy [[3],(U5 ks m),kk]))] (by kernel_rfl) (fun W hW=>trivial) ?bS ?bT ?bU;case bS=>exact Ln
   case bT=>
    refine (P5 ⟨?cS,(P5 ⟨?cT,(P5 ⟨?cU,Kh⟩)⟩)⟩);case cS=>
     intro o ho us W hW hp Q' hQ';obtain rfl:=Option.some.inj ho;clear hp ho;rw[C7]at hQ' ⊢;dsimp only[F0,H8,List.foldl,zv,za,zs,zp,zb]at hQ' ⊢;simp only[Ch];go_wp2_with fail;exact Cz (hQ' _ _ (Aw _ _) (B4z W 3 _ rfl) nofun)
    case cT=>intro o ho us W hW hp Q' hQ';obtain rfl:=Option.some.inj ho;have aJ:By W 0 W.heap.size (us 0) [3]:=hp 0 _ rfl (by kernel_rfl);obtain⟨A0,n0,c0,bB⟩:=aJ.formE;rw[bB]at aJ;have aJ:=Lib.hid aJ;clear hp ho;rw[C7]at hQ' ⊢;dsimp only[F0,H8,List.foldl,zv,za,zs,zp,zb]at hQ' ⊢;simp only[Ch];rw[bB]at hQ' ⊢;clear bB;have aK:=aI.drew.bl hW;have bV:=aH.drew.bl hW;go_wp2_with fail;exact Cz (hQ' _ _ (Aw _ _) ⟨_,rfl,(N8.three W _ _ _ _ [3] (U5 ks m) kk aJ.out (Bk.byAll (aK) (Az ks m) (by decide)) (Bk.byAll (bV) cO (by decide))).more (by simp)⟩ nofun)
    case cU=>
     intro o ho us W hW hp Q' hQ';obtain rfl:=Option.some.inj ho;obtain⟨dK,bX,bY⟩:=hp 1 _ rfl (by kernel_rfl);have bX:us 3=.slice (some ⟨dK,0,none⟩) 3 3:=bX;have bY:N8 W W.heap.size (.slice (some ⟨dK,0,none⟩) 3 3) [[3],(U5 ks m),kk]:=by rw[←bX];exact bY
     have bY:=Lib.hid bY;clear hp ho;rw[C7]at hQ' ⊢;dsimp only[F0,H8,List.foldl,zv,za,zs,zp,zb]at hQ' ⊢;simp only[Ch];rw[bX]at hQ' ⊢;clear bX;go_wp2_with fail;refine (B5k _ [[3],(U5 ks m),kk] W bY.out (B6l rfl (Az ks m) cO (by decide))).mono ?_;rintro e W2 ⟨rfl,b2⟩;go_wp2_with fail;exact Cz (hQ' _ _ b2 rfl nofun)
   case bU=>
   intro us W7 b8 hg bC cV;have bZ:By W7 0 W7.heap.size (us 0) [3]:=hg _ (O8 0 rfl);have bZ:=Lib.hid bZ;have bN:us 4=(A8 (Iy [[3],(U5 ks m),kk])):=hg _ (O8 2 rfl);have b9:=K9 S6 b8;refine RG' ?_;rw[bN];clear hg bC cV bN b8 S6;have B7:=K9 dI b9;have z7:=Nat.le_trans dJ b9.size;have cA:=aU.bl b9;have bD:=aI.bl b9;clear b9 dI dJ aU aI aH;obtain⟨dV,aC⟩:=F9 (D8 W7 ⟨w.heap.size+1,0,none⟩ (c8 (Iy [[3],(U5 ks m),kk])));have cB:Bk dV (w.heap.size+1) 23 (c8 (Iy [[3],(U5 ks m),kk])):=by rw[aC];exact Bk.put8 (bD) ((Az ks m)) ((Bw [[3],(U5 ks m),kk]))
   have cC:=J3 aC cA (by omega);have dW:=Bi aC B7 (by omega);have bE:=C8' 32 bD (Az ks m);have bF:(Iy [[3],(U5 ks m),kk]).length=32:=(Bw [[3],(U5 ks m),kk]);refine U7 5 fun Q' hQ'=>?_;dsimp only[F0];go_wp2_with fail;rw[←aC];refine hQ' _ _ trivial ?_;clear hQ' bE bF;have dX:=Il aC z7;clear aC B7 z7 cA bD;refine Ef ?_;go_wp2_with fail;go_roundw;case rel=>exact ⟨m+1,by omega,by omega,by go_num,cC,(by rw[HD.out];exact cB),dW,dX⟩
   case measure=>simp[intOf];omega
  ·
   obtain rfl:n=m:=by omega
   go_wp2_with fail;have dL:=Fx wr;refine Fa (fun W=>True) ?_;refine Df (A:=?dY) [1,2,3,5] trivial (fun W hW=>?cW) ?dZ;case cW=>
    exact Ei
   refine J8 [zb 0 19 [2],zb 4 23 (U0 (UInt64.ofNat n)),zs 6 25 3 [[2],(U0 (UInt64.ofNat n)),(U5 ks n)],zv 7 26 (A8 (Iy [[2],(U0 (UInt64.ofNat n)),(U5 ks n)]))] (by kernel_rfl) (fun W hW=>trivial) ?bG ?bH ?bI;case bG=>exact Ln
   case bH=>
    refine (P5 ⟨?cD,(P5 ⟨?cE,(P5 ⟨?cF,(P5 ⟨?cG,Kh⟩)⟩)⟩)⟩);case cD=>
     intro o ho us W hW hp Q' hQ';obtain rfl:=Option.some.inj ho;clear hp ho;rw[C7]at hQ' ⊢;dsimp only[F0,H8,List.foldl,zv,za,zs,zp,zb]at hQ' ⊢;simp only[Ch];go_wp2_with fail;exact Cz (hQ' _ _ (Aw _ _) (B4z W 2 _ rfl) nofun)
    case cE=>intro o ho us W hW hp Q' hQ';obtain rfl:=Option.some.inj ho;clear hp ho;rw[C7]at hQ' ⊢;dsimp only[F0,H8,List.foldl,zv,za,zs,zp,zb]at hQ' ⊢;simp only[Ch];go_wp2_with fail;refine (B1j (UInt64.ofNat n) W).mono ?_;rintro e W2 ⟨v2,rfl,cX,b2⟩;have cX:=Lib.hid cX;go_wp2_with fail;exact Cz (hQ' _ _ b2 cX.out.up nofun)
    case cF=>intro o ho us W hW hp Q' hQ';obtain rfl:=Option.some.inj ho;have aJ:By W 0 W.heap.size (us 0) [2]:=hp 0 _ rfl (by kernel_rfl);obtain⟨A0,n0,c0,bB⟩:=aJ.formE;rw[bB]at aJ;have aJ:=Lib.hid aJ;have aW:By W 0 W.heap.size (us 4) (U0 (UInt64.ofNat n)):=hp 1 _ rfl (by kernel_rfl);obtain⟨A4,n4,c4,bN⟩:=aW.formE;rw[bN]at aW;have aW:=Lib.hid aW;clear hp ho;rw[C7]at hQ' ⊢;dsimp only[F0,H8,List.foldl,zv,za,zs,zp,zb]at hQ' ⊢;simp only[Ch];rw[bB,bN]at hQ' ⊢;clear bB bN;have aK:=aB.drew.bl hW;go_wp2_with fail;exact Cz (hQ' _ _ (Aw _ _) ⟨_,rfl,(N8.three W _ _ _ _ [2] (U0 (UInt64.ofNat n)) (U5 ks n) aJ.out aW.out (Bk.byAll (aK) (Az ks n) (by decide))).more (by simp)⟩ nofun)
    case cG=>
     intro o ho us W hW hp Q' hQ';obtain rfl:=Option.some.inj ho;have aW:By W 0 W.heap.size (us 4) (U0 (UInt64.ofNat n)):=hp 1 _ rfl (by kernel_rfl);have aW:=Lib.hid aW;obtain⟨dM,cH,cI⟩:=hp 2 _ rfl (by kernel_rfl);have cH:us 6=.slice (some ⟨dM,0,none⟩) 3 3:=cH;have cI:N8 W W.heap.size (.slice (some ⟨dM,0,none⟩) 3 3) [[2],(U0 (UInt64.ofNat n)),(U5 ks n)]:=by rw[←cH];exact cI
     have cI:=Lib.hid cI;clear hp ho;rw[C7]at hQ' ⊢;dsimp only[F0,H8,List.foldl,zv,za,zs,zp,zb]at hQ' ⊢;simp only[Ch];rw[cH]at hQ' ⊢;clear cH;go_wp2_with fail;refine (B5k _ [[2],(U0 (UInt64.ofNat n)),(U5 ks n)] W cI.out (B6l rfl (Ys (UInt64.ofNat n)) (Az ks n) (by decide))).mono ?_;rintro e W2 ⟨rfl,b2⟩;go_wp2_with fail;exact Cz (hQ' _ _ b2 rfl nofun)
   case bI=>
   intro us cJ dN hg bC cV;have bZ:By cJ 0 cJ.heap.size (us 0) [2]:=hg _ (O8 0 rfl);have bZ:=Lib.hid bZ;have dO:By cJ 0 cJ.heap.size (us 4) (U0 (UInt64.ofNat n)):=hg _ (O8 1 rfl);have dO:=Lib.hid dO;have dP:us 7=(A8 (Iy [[2],(U0 (UInt64.ofNat n)),(U5 ks n)])):=hg _ (O8 3 rfl);have cY:=K9 dL dN;refine RG' ?_;rw[dP];clear hg bC cV dP dN dL;have dQ:=K9 cM cY;have aL:=aA.bl cY;clear cY cM cN aA aB;obtain⟨eF,aM⟩:=F9 (D8 cJ ⟨w.heap.size,0,none⟩ (c8 (Iy [[2],(U0 (UInt64.ofNat n)),(U5 ks n)])));have cK:=P8' 32 aM aL (by simp) (Bw [[2],(U0 (UInt64.ofNat n)),(U5 ks n)]);have eA:=Bi aM dQ (by omega);have bJ:=C8' 32 aL (by simp);have bK:(Iy [[2],(U0 (UInt64.ofNat n)),(U5 ks n)]).length=32:=(Bw [[2],(U0 (UInt64.ofNat n)),(U5 ks n)]);refine U7 8 fun Q' hQ'=>?_;dsimp only[F0];go_wp2_with fail;rw[←aM];refine hQ' _ _ trivial ?_;clear hQ' bJ bK;clear aM dQ aL;refine Ef ?_;go_wp2_with fail;have cZ:(Iy [[2],(U0 (UInt64.ofNat n)),(U5 ks n)]).length=32:=(Bw [[2],(U0 (UInt64.ofNat n)),(U5 ks n)]);refine bodyPost_ret (E5 rfl _ _ _ _ _ _ rfl cK Tryz.underlying23 rfl (by simp[P6,cZ])) rfl ⟨by rw[HE.out];rfl,eA⟩
end Go.Proofs.YtlegpkdighoflaaGreat
