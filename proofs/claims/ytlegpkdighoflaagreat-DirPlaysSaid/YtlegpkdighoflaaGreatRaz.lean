/- A part of the proof of DirPlays. -/
import Derived.Test.YtlegpkdighoflaaGreatRay
set_option linter.unusedVariables false
set_option linter.unusedSimpArgs false
set_option maxRecDepth 100000
set_option maxHeartbeats 40000000
namespace Go.Proofs.YtlegpkdighoflaaGreat
open Go Go.RowKit Sh
theorem By.same {w:World} {lo B:Nat} {v:Value} {l:List UInt8} (h:By w lo B v l):By w lo B v l:=h
theorem C3l (seed:List UInt8) (bv:Value) (body:List UInt8) (hs:seed.length=32) (w:World) (hb:By w 0 w.heap.size bv body) (hbl:body.length≤1000000):Calls Tryz.prog 43 #[A8 seed,.int .u8 1,bv] w fun e w'=>e=.returned (A8 (Iz seed 1 body))∧Below w.heap.size w w':=D1n seed 1 bv body hs w hb hbl
theorem B8q (key:List UInt8) (bv:Value) (body sig:List UInt8) (hk:key.length=32) (hg:sig.length=64) (w:World) (hb:By w 0 w.heap.size bv body) (hbl:body.length≤1000000):Calls Tryz.prog 50 #[A8 key,.int .u8 1,bv,A8 sig] w fun e w'=>e=.returned (.bool (Hg key 1 body sig))∧Below w.heap.size w w':=C5c key 1 bv body sig hk hg w hb hbl
noncomputable def mkU (seed:List UInt8) (ver:Int) (key:List UInt8):UV:=⟨Cl seed,ver,key,Iz seed 1 (Ad ver key)⟩
theorem D1w (seed:List UInt8) (ver:Int) {key:List UInt8} (hk:key.length=32):(mkU seed ver key).Ok:=⟨Ga _,hk,Ie _ _ _⟩
theorem B4d (seed:List UInt8) (ver:Int) (key:List UInt8) (hs:seed.length=32) (hk:key.length=32) (w:World):Calls Tryz.prog 18 #[A8 seed,.int .i64 ver,A8 key] w fun e w'=>e=.returned (Ws (mkU seed ver key))∧Below w.heap.size w w':=by
 obtain⟨W0,aO⟩:=E9 ((((w.alloc (Obj.cells (c8 seed).toArray 23)).alloc (Obj.cells (c8 key).toArray 23)).alloc (Obj.cells (Ch (Qj 129)).toArray 63)));have hL:W0=O8 w [(23,(c8 seed)),(23,(c8 key)),(63,(Ch (Qj 129)))]:=aO;have B0:=Rf hL;have aA:=Um hL rfl;have aB:=Nm 1 hL rfl;have aF:=Nm 2 hL rfl;clear hL;go_enter Tryz.func18,Tryz.ntmps18;go_wp2_with fail;rw[←aO];clear aO;have S1:=Kg W0;refine Jh (fun W=>Bk W (w.heap.size) 23 (c8 seed)∧Bk W (w.heap.size+1) 23 (c8 key)) ?_;refine Fs (A:=?bE) [0,2,3,4,5,6] ⟨(aA.drew),(aB.drew)⟩ (fun W hW=>?bC) ?bF;case bC=>
  have f0:=Bk.row8 (n:=32) (hW.1) (hs);have f3:=Bk.row8 (n:=32) (hW.2) (hk);exact Gq
 refine N8 [zv 1 8 (A8 (Cl seed)),zb 7 14 (Ad ver key),zv 8 15 (A8 (Iz seed 1 (Ad ver key))),zv 9 16 (Ws (⟨(Cl seed),ver,key,(Iz seed 1 (Ad ver key))⟩:UV))] (by kernel_rfl) (fun W hW=>⟨(aA.drew.bl hW),(aB.drew.bl hW)⟩) ?aG ?aH ?aI;case aG=>exact MO'
 case aH=>
  refine (Z3 ⟨?aP,(Z3 ⟨?aQ,(Z3 ⟨?aR,(Z3 ⟨?aS,Zh⟩)⟩)⟩)⟩);case aP=>
   exact KG' fun W=>B9q seed hs W
  case aQ=>intro o ho us W hW hp Q' hQ';obtain rfl:=Option.some.inj ho;have aC:us 1=(A8 (Cl seed)):=hp 0 _ rfl (by kernel_rfl);clear hp ho;rw[C1]at hQ' ⊢;dsimp only[C7,E5,List.foldl,zv,za,zs,zp,zb]at hQ' ⊢;simp only[Cy];rw[aC]at hQ' ⊢;clear aC;go_wp2_with fail;refine (B3o ver key hk W).mono ?_;rintro e W2 ⟨v2,rfl,aT,b2⟩;have aT:=Lib.hid aT;go_wp2_with fail;exact Ea (hQ' _ _ b2 aT.out.same nofun)
  case aR=>intro o ho us W hW hp Q' hQ';obtain rfl:=Option.some.inj ho;have aU:By W 0 W.heap.size (us 7) (Ad ver key):=hp 1 _ rfl (by kernel_rfl);have aU:=Lib.hid aU;clear hp ho;rw[C1]at hQ' ⊢;dsimp only[C7,E5,List.foldl,zv,za,zs,zp,zb]at hQ' ⊢;simp only[Cy];go_wp2_with fail;refine (C3l seed _ (Ad ver key) hs W aU.out (by rw[Xz ver hk];decide)).mono ?_;rintro e W2 ⟨rfl,b2⟩;go_wp2_with fail;exact Ea (hQ' _ _ b2 rfl nofun)
  case aS=>intro o ho us W hW hp Q' hQ';obtain rfl:=Option.some.inj ho;have aC:us 1=(A8 (Cl seed)):=hp 0 _ rfl (by kernel_rfl);have aJ:us 8=(A8 (Iz seed 1 (Ad ver key))):=hp 2 _ rfl (by kernel_rfl);clear hp ho;rw[C1]at hQ' ⊢;dsimp only[C7,E5,List.foldl,zv,za,zs,zp,zb]at hQ' ⊢;simp only[Cy];rw[aC,aJ]at hQ' ⊢;clear aC aJ;have c0:(Cl seed).length=32:=(Ga seed);have c2:key.length=32:=hk;have c3:(Iz seed 1 (Ad ver key)).length=64:=(Ie seed 1 (Ad ver key));go_wp2_with fail;exact Ea (hQ' _ _ (Below.refl _ _) rfl nofun)
 case aI=>
 intro us W2 b3 hg aV bD;have aC:us 1=(A8 (Cl seed)):=hg _ (Ca 0 rfl);have bA:By W2 0 W2.heap.size (us 7) (Ad ver key):=hg _ (Ca 1 rfl);have bA:=Lib.hid bA;have aJ:us 8=(A8 (Iz seed 1 (Ad ver key))):=hg _ (Ca 2 rfl);have bB:us 9=(Ws (⟨(Cl seed),ver,key,(Iz seed 1 (Ad ver key))⟩:UV)):=hg _ (Ca 3 rfl);have b4:=Q5 S1 b3;refine RG' ?_;rw[aC,aJ,bB];clear hg aV bD aC aJ bB b3 S1;have B2:=Q5 B0 b4;have aK:=aA.bl b4;have aL:=aB.bl b4;have aD:=aF.bl b4;clear b4 B0 aA aB aF;obtain⟨W5,aE⟩:=E9 (C4 W2 ⟨w.heap.size+2,0,none⟩ (Ch (⟨(Cl seed),ver,key,(Iz seed 1 (Ad ver key))⟩:UV)));have aW:Bk W5 (w.heap.size+2) 63 (Ch (⟨(Cl seed),ver,key,(Iz seed 1 (Ad ver key))⟩:UV)):=by rw[aE];exact Bk.putvc (aD) (((Kd 129).len)) (((⟨(Ga seed),hk,(Ie seed 1 (Ad ver key))⟩:UV.Ok (⟨(Cl seed),ver,key,(Iz seed 1 (Ad ver key))⟩:UV)).len))
 have aX:=U1 aE aK (by omega);have aY:=U1 aE aL (by omega);have B5:=Iu aE B2 (by omega);have aM:=Bk.canvc (aD) (((Kd 129).len));have aN:(⟨(Cl seed),ver,key,(Iz seed 1 (Ad ver key))⟩:UV).length=129:=((⟨(Ga seed),hk,(Ie seed 1 (Ad ver key))⟩:UV.Ok (⟨(Cl seed),ver,key,(Iz seed 1 (Ad ver key))⟩:UV)).len);refine Ci 10 fun Q' hQ'=>?_;dsimp only[C7];go_wp2_with fail;rw[←aE];refine hQ' _ _ ⟨aX,aY⟩ ?_;clear hQ' aM aN;clear aE B2 aK aL aD;refine It ?_;go_wp2_with fail;have aZ:(⟨(Cl seed),ver,key,(Iz seed 1 (Ad ver key))⟩:UV).length=129:=((⟨(Ga seed),hk,(Ie seed 1 (Ad ver key))⟩:UV.Ok (⟨(Cl seed),ver,key,(Iz seed 1 (Ad ver key))⟩:UV)).len);refine bodyPost_ret (C5 rfl _ _ _ _ _ _ rfl aW Yx rfl (by simp[B0u,aZ,Fa])) rfl ⟨rfl,B5⟩
noncomputable def signedB (u:UV):Bool:=decide (1≤u.ver)&&(decide (u.ver≤64)&&Hg u.id 1 (Ad u.ver u.key) u.sig)
theorem C0c {u:UV} (h:decide (1≤u.ver)=false):signedB u=false:=by unfold signedB;rw[h,Bool.false_and]
theorem B6t {u:UV} (h:decide (u.ver≤64)=false):signedB u=false:=by unfold signedB;rw[h,Bool.false_and,Bool.and_false]
theorem A5j {u:UV} (h:decide (1≤u.ver)=true) (h2:decide (u.ver≤64)=true):signedB u=Hg u.id 1 (Ad u.ver u.key) u.sig:=by unfold signedB;rw[h,h2,Bool.true_and,Bool.true_and]
theorem A6e (u:UV) (hu:u.Ok) (w:World):Calls Tryz.prog 27 #[Ws u] w fun e w'=>e=.returned (.bool (signedB u))∧Below w.heap.size w w':=by
 have aT:=hu.id;have aU:=hu.key;have aV:=hu.sig;have aW:=hu.len;obtain⟨W0,aE⟩:=E9 ((w.alloc (Obj.cells (Ch u).toArray 63)));have hL:W0=O8 w [(63,(Ch u))]:=aE;have B0:=Rf hL;have aC:=Um hL rfl;clear hL;by_cases h1:1≤u.ver
 ·
  by_cases h2:u.ver≤64
  ·
   have d1:=decide_eq_true h1;have d2:=decide_eq_true h2;have HV:=Lib.hid (A5j d1 d2);go_enter Tryz.func27,Tryz.ntmps27;go_wp2_with fail;rw[←aE];clear aE;have S1:=Kg W0;refine Jh (fun W=>Bk W (w.heap.size) 63 (Ch u)) ?_;refine Fs (A:=?aX) [0,1,2,3,4,5,6,7,8,9,10,11,12,13,14,16,17] (aC.drew) (fun W hW=>?aQ) ?aY;case aQ=>have f1:=UV.loadver (hW) hu;have f10:=UV.loadid (hW) hu;have aZ:=UV.loadkey (hW) hu;have bA:=UV.loadsig (hW) hu;exact Gq
   refine A5f [zb 15 18 (Ad u.ver u.key),zv 18 21 (.bool (Hg u.id 1 (Ad u.ver u.key) u.sig)),zv 19 22 (.bool (Hg u.id 1 (Ad u.ver u.key) u.sig)),zv 20 2 (.bool (Hg u.id 1 (Ad u.ver u.key) u.sig))] (by kernel_rfl) ?aR (fun W hW=>(aC.drew.bl hW)) ?aF ?aG ?aH;case aF=>exact MO'
   case aR=>exact (Z3 ⟨(fun o ho us=>by obtain rfl:=Option.some.inj ho;kernel_rfl),(Z3 ⟨(fun o ho us=>by obtain rfl:=Option.some.inj ho;kernel_rfl),(Z3 ⟨(fun o ho us=>by obtain rfl:=Option.some.inj ho;kernel_rfl),(Z3 ⟨(fun o ho us=>by obtain rfl:=Option.some.inj ho;kernel_rfl),Zh⟩)⟩)⟩)⟩)
   case aG=>
    refine (Z3 ⟨?aI,(Z3 ⟨?aJ,(Z3 ⟨?aK,(Z3 ⟨?aL,Zh⟩)⟩)⟩)⟩);case aI=>
     intro o ho us W hW hp Q' hQ';obtain rfl:=Option.some.inj ho;clear hp ho;rw[C1]at hQ' ⊢;dsimp only[C7,E5,List.foldl,zv,za,zs,zp,zb]at hQ' ⊢;simp only[Cy];go_wp2_with fail;refine (B3o u.ver u.key hu.key W).mono ?_;rintro e W2 ⟨v2,rfl,aO,b2⟩;have aO:=Lib.hid aO;go_wp2_with fail;exact Ea (hQ' _ _ b2 aO.out.same nofun)
    case aJ=>intro o ho us W hW hp Q' hQ';obtain rfl:=Option.some.inj ho;have aB:By W 0 W.heap.size (us 15) (Ad u.ver u.key):=hp 0 _ rfl (by kernel_rfl);have aB:=Lib.hid aB;clear hp ho;rw[C1]at hQ' ⊢;dsimp only[C7,E5,List.foldl,zv,za,zs,zp,zb]at hQ' ⊢;simp only[Cy];go_wp2_with fail;refine (B8q u.id _ (Ad u.ver u.key) u.sig hu.id hu.sig W aB.out (by rw[Xz u.ver hu.key];decide)).mono ?_;rintro e W2 ⟨rfl,b2⟩;go_wp2_with fail;exact Ea (hQ' _ _ b2 rfl nofun)
    case aK=>intro o ho us W hW hp Q' hQ';obtain rfl:=Option.some.inj ho;have aA:us 18=(.bool (Hg u.id 1 (Ad u.ver u.key) u.sig)):=hp 1 _ rfl (by kernel_rfl);clear hp ho;rw[C1]at hQ' ⊢;dsimp only[C7,E5,List.foldl,zv,za,zs,zp,zb]at hQ' ⊢;simp only[Cy];rw[aA]at hQ' ⊢;clear aA;go_wp2_with fail;exact Ea (hQ' _ _ (Below.refl _ _) rfl nofun)
    case aL=>intro o ho us W hW hp Q' hQ';obtain rfl:=Option.some.inj ho;have aB:By W 0 W.heap.size (us 15) (Ad u.ver u.key):=hp 0 _ rfl (by kernel_rfl);have aB:=Lib.hid aB;have aA:us 18=(.bool (Hg u.id 1 (Ad u.ver u.key) u.sig)):=hp 1 _ rfl (by kernel_rfl);have aD:us 19=(.bool (Hg u.id 1 (Ad u.ver u.key) u.sig)):=hp 2 _ rfl (by kernel_rfl);clear hp ho;rw[C1]at hQ' ⊢;dsimp only[C7,E5,List.foldl,zv,za,zs,zp,zb]at hQ' ⊢;simp only[Cy];rw[aA,aD]at hQ' ⊢;clear aA aD;go_wp2_with fail;exact Ea (hQ' _ _ (Below.refl _ _) rfl nofun)
   case aH=>
   intro us W2 b3 hg aP aS;have aM:By W2 0 W2.heap.size (us 15) (Ad u.ver u.key):=hg _ (Ca 0 rfl);have aM:=Lib.hid aM;have aA:us 18=(.bool (Hg u.id 1 (Ad u.ver u.key) u.sig)):=hg _ (Ca 1 rfl);have aD:us 19=(.bool (Hg u.id 1 (Ad u.ver u.key) u.sig)):=hg _ (Ca 2 rfl);have aN:us 20=(.bool (Hg u.id 1 (Ad u.ver u.key) u.sig)):=hg _ (Ca 3 rfl);have b4:=Q5 S1 b3;refine RG' ?_;rw[aA,aD,aN];clear hg aP aS aA aD aN b3 S1;have B2:=Q5 B0 b4;clear b4 B0 aC;refine It ?_;go_wp2_with fail;go_ret;exact ⟨by rw[HV.out];rfl,B2⟩
  ·
   have d1:=decide_eq_true h1;have d2:=decide_eq_false h2;have HV:=Lib.hid (B6t d2);have fv:=UV.loadver aC hu;rw[aE]at fv;go_enter Tryz.func27,Tryz.ntmps27;go_wp2_with fail;go_quiet (fail);rw[←aE];go_wp2_with fail;go_ret;exact ⟨by rw[HV.out];rfl,K9 B0 _⟩
 ·
  have d1:=decide_eq_false h1;have HV:=Lib.hid (C0c d1);have fv:=UV.loadver aC hu;rw[aE]at fv;go_enter Tryz.func27,Tryz.ntmps27;go_wp2_with fail;go_quiet (fail);rw[←aE];go_wp2_with fail;go_ret;exact ⟨by rw[HV.out];rfl,K9 B0 _⟩
end Go.Proofs.YtlegpkdighoflaaGreat
