/- A part of the proof of DirOrder. -/
import Derived.Test.YtlegpkdighoflaaGreatQav
set_option linter.unusedVariables false
set_option linter.unusedSimpArgs false
set_option maxRecDepth 100000
set_option maxHeartbeats 40000000
namespace Go.Proofs.YtlegpkdighoflaaGreat
open Go Go.RowKit Sh
theorem By.same {w:World} {lo B:Nat} {v:Value} {l:List UInt8} (h:By w lo B v l):By w lo B v l:=h
theorem B2z (seed:List UInt8) (bv:Value) (body:List UInt8) (hs:seed.length=32) (w:World) (hb:By w 0 w.heap.size bv body) (hbl:body.length≤1000000):Calls Tryz.prog 43 #[A8 seed,.int .u8 1,bv] w fun e w'=>e=.returned (A8 (Gu seed 1 body))∧Below w.heap.size w w':=B8m seed 1 bv body hs w hb hbl
theorem A8i (key:List UInt8) (bv:Value) (body sig:List UInt8) (hk:key.length=32) (hg:sig.length=64) (w:World) (hb:By w 0 w.heap.size bv body) (hbl:body.length≤1000000):Calls Tryz.prog 50 #[A8 key,.int .u8 1,bv,A8 sig] w fun e w'=>e=.returned (.bool (Fq key 1 body sig))∧Below w.heap.size w w':=B2k key 1 bv body sig hk hg w hb hbl
noncomputable def Og (seed:List UInt8) (ver:Int) (key:List UInt8):UV:=⟨Bj seed,ver,key,Gu seed 1 (Y8 ver key)⟩
theorem B6x (seed:List UInt8) (ver:Int) {key:List UInt8} (hk:key.length=32):(Og seed ver key).Ok:=⟨Er _,hk,Gq _ _ _⟩
theorem A2v (seed:List UInt8) (ver:Int) (key:List UInt8) (hs:seed.length=32) (hk:key.length=32) (w:World):Calls Tryz.prog 18 #[A8 seed,.int .i64 ver,A8 key] w fun e w'=>e=.returned (Vs (Og seed ver key))∧Below w.heap.size w w':=by
 obtain⟨W0,aO⟩:=H8 ((((w.alloc (Obj.cells (c8 seed).toArray 23)).alloc (Obj.cells (c8 key).toArray 23)).alloc (Obj.cells (Dt (Un 129)).toArray 63)));have hL:W0=M2 w [(23,(c8 seed)),(23,(c8 key)),(63,(Dt (Un 129)))]:=aO;have B0:=Jc hL;have aA:=Jy hL rfl;have aB:=Gs 1 hL rfl;have aF:=Gs 2 hL rfl;clear hL;go_enter Tryz.func18,Tryz.ntmps18;go_wp2_with fail;rw[←aO];clear aO;have S1:=Eo W0;refine Dm (fun W=>Bk W (w.heap.size) 23 (c8 seed)∧Bk W (w.heap.size+1) 23 (c8 key)) ?_;refine Cf (A:=?bE) [0,2,3,4,5,6] ⟨(aA.drew),(aB.drew)⟩ (fun W hW=>?bC) ?bF;case bC=>
  have f0:=Bk.row8 (n:=32) (hW.1) (hs);have f3:=Bk.row8 (n:=32) (hW.2) (hk);exact Dd
 refine J2 [zv 1 8 (A8 (Bj seed)),zb 7 14 (Y8 ver key),zv 8 15 (A8 (Gu seed 1 (Y8 ver key))),zv 9 16 (Vs (⟨(Bj seed),ver,key,(Gu seed 1 (Y8 ver key))⟩:UV))] (by kernel_rfl) (fun W hW=>⟨(aA.drew.bl hW),(aB.drew.bl hW)⟩) ?aG ?aH ?aI;case aG=>exact Jz
 case aH=>
  refine (N7 ⟨?aP,(N7 ⟨?aQ,(N7 ⟨?aR,(N7 ⟨?aS,Ik⟩)⟩)⟩)⟩);case aP=>
   exact KG' fun W=>A8s seed hs W
  case aQ=>intro o ho us W hW hp Q' hQ';obtain rfl:=Option.some.inj ho;have aC:us 1=(A8 (Bj seed)):=hp 0 _ rfl (by kernel_rfl);clear hp ho;rw[C8]at hQ' ⊢;dsimp only[F8,I2,List.foldl,zv,za,zs,zp,zb]at hQ' ⊢;simp only[Bu];rw[aC]at hQ' ⊢;clear aC;go_wp2_with fail;refine (A3c ver key hk W).mono ?_;rintro e W2 ⟨v2,rfl,aT,b2⟩;have aT:=Lib.hid aT;go_wp2_with fail;exact Cm (hQ' _ _ b2 aT.out.same nofun)
  case aR=>intro o ho us W hW hp Q' hQ';obtain rfl:=Option.some.inj ho;have aU:By W 0 W.heap.size (us 7) (Y8 ver key):=hp 1 _ rfl (by kernel_rfl);have aU:=Lib.hid aU;clear hp ho;rw[C8]at hQ' ⊢;dsimp only[F8,I2,List.foldl,zv,za,zs,zp,zb]at hQ' ⊢;simp only[Bu];go_wp2_with fail;refine (B2z seed _ (Y8 ver key) hs W aU.out (by rw[Rx ver hk];decide)).mono ?_;rintro e W2 ⟨rfl,b2⟩;go_wp2_with fail;exact Cm (hQ' _ _ b2 rfl nofun)
  case aS=>intro o ho us W hW hp Q' hQ';obtain rfl:=Option.some.inj ho;have aC:us 1=(A8 (Bj seed)):=hp 0 _ rfl (by kernel_rfl);have aJ:us 8=(A8 (Gu seed 1 (Y8 ver key))):=hp 2 _ rfl (by kernel_rfl);clear hp ho;rw[C8]at hQ' ⊢;dsimp only[F8,I2,List.foldl,zv,za,zs,zp,zb]at hQ' ⊢;simp only[Bu];rw[aC,aJ]at hQ' ⊢;clear aC aJ;have c0:(Bj seed).length=32:=(Er seed);have c2:key.length=32:=hk;have c3:(Gu seed 1 (Y8 ver key)).length=64:=(Gq seed 1 (Y8 ver key));go_wp2_with fail;exact Cm (hQ' _ _ (Below.refl _ _) rfl nofun)
 case aI=>
 intro us W2 b3 hg aV bD;have aC:us 1=(A8 (Bj seed)):=hg _ (M6 0 rfl);have bA:By W2 0 W2.heap.size (us 7) (Y8 ver key):=hg _ (M6 1 rfl);have bA:=Lib.hid bA;have aJ:us 8=(A8 (Gu seed 1 (Y8 ver key))):=hg _ (M6 2 rfl);have bB:us 9=(Vs (⟨(Bj seed),ver,key,(Gu seed 1 (Y8 ver key))⟩:UV)):=hg _ (M6 3 rfl);have b4:=J5 S1 b3;refine RG' ?_;rw[aC,aJ,bB];clear hg aV bD aC aJ bB b3 S1;have B2:=J5 B0 b4;have aK:=aA.bl b4;have aL:=aB.bl b4;have aD:=aF.bl b4;clear b4 B0 aA aB aF;obtain⟨W5,aE⟩:=H8 (E0 W2 ⟨w.heap.size+2,0,none⟩ (Dt (⟨(Bj seed),ver,key,(Gu seed 1 (Y8 ver key))⟩:UV)));have aW:Bk W5 (w.heap.size+2) 63 (Dt (⟨(Bj seed),ver,key,(Gu seed 1 (Y8 ver key))⟩:UV)):=by rw[aE];exact Bk.putvc (aD) (((Nr 129).len)) (((⟨(Er seed),hk,(Gq seed 1 (Y8 ver key))⟩:UV.Ok (⟨(Bj seed),ver,key,(Gu seed 1 (Y8 ver key))⟩:UV)).len))
 have aX:=I4 aE aK (by omega);have aY:=I4 aE aL (by omega);have B5:=Z9 aE B2 (by omega);have aM:=Bk.canvc (aD) (((Nr 129).len));have aN:(⟨(Bj seed),ver,key,(Gu seed 1 (Y8 ver key))⟩:UV).length=129:=((⟨(Er seed),hk,(Gq seed 1 (Y8 ver key))⟩:UV.Ok (⟨(Bj seed),ver,key,(Gu seed 1 (Y8 ver key))⟩:UV)).len);refine U0 10 fun Q' hQ'=>?_;dsimp only[F8];go_wp2_with fail;rw[←aE];refine hQ' _ _ ⟨aX,aY⟩ ?_;clear hQ' aM aN;clear aE B2 aK aL aD;refine Cu ?_;go_wp2_with fail;have aZ:(⟨(Bj seed),ver,key,(Gu seed 1 (Y8 ver key))⟩:UV).length=129:=((⟨(Er seed),hk,(Gq seed 1 (Y8 ver key))⟩:UV.Ok (⟨(Bj seed),ver,key,(Gu seed 1 (Y8 ver key))⟩:UV)).len);refine bodyPost_ret (E5 rfl _ _ _ _ _ _ rfl aW Ud rfl (by simp[A1e,aZ,Du])) rfl ⟨rfl,B5⟩
noncomputable def U8 (u:UV):Bool:=decide (1≤u.ver)&&(decide (u.ver≤64)&&Fq u.id 1 (Y8 u.ver u.key) u.sig)
theorem A7r {u:UV} (h:decide (1≤u.ver)=false):U8 u=false:=by unfold U8;rw[h,Bool.false_and]
theorem A7y {u:UV} (h:decide (u.ver≤64)=false):U8 u=false:=by unfold U8;rw[h,Bool.false_and,Bool.and_false]
theorem Xc {u:UV} (h:decide (1≤u.ver)=true) (h2:decide (u.ver≤64)=true):U8 u=Fq u.id 1 (Y8 u.ver u.key) u.sig:=by unfold U8;rw[h,h2,Bool.true_and,Bool.true_and]
theorem A8k (u:UV) (hu:u.Ok) (w:World):Calls Tryz.prog 27 #[Vs u] w fun e w'=>e=.returned (.bool (U8 u))∧Below w.heap.size w w':=by
 have aT:=hu.id;have aU:=hu.key;have aV:=hu.sig;have aW:=hu.len;obtain⟨W0,aE⟩:=H8 ((w.alloc (Obj.cells (Dt u).toArray 63)));have hL:W0=M2 w [(63,(Dt u))]:=aE;have B0:=Jc hL;have aC:=Jy hL rfl;clear hL;by_cases h1:1≤u.ver
 ·
  by_cases h2:u.ver≤64
  ·
   have d1:=decide_eq_true h1;have d2:=decide_eq_true h2;have HV:=Lib.hid (Xc d1 d2);go_enter Tryz.func27,Tryz.ntmps27;go_wp2_with fail;rw[←aE];clear aE;have S1:=Eo W0;refine Dm (fun W=>Bk W (w.heap.size) 63 (Dt u)) ?_;refine Cf (A:=?aX) [0,1,2,3,4,5,6,7,8,9,10,11,12,13,14,16,17] (aC.drew) (fun W hW=>?aQ) ?aY;case aQ=>have f1:=UV.loadver (hW) hu;have Ut:=UV.loadid (hW) hu;have aZ:=UV.loadkey (hW) hu;have bA:=UV.loadsig (hW) hu;exact Dd
   refine Wz [zb 15 18 (Y8 u.ver u.key),zv 18 21 (.bool (Fq u.id 1 (Y8 u.ver u.key) u.sig)),zv 19 22 (.bool (Fq u.id 1 (Y8 u.ver u.key) u.sig)),zv 20 2 (.bool (Fq u.id 1 (Y8 u.ver u.key) u.sig))] (by kernel_rfl) ?aR (fun W hW=>(aC.drew.bl hW)) ?aF ?aG ?aH;case aF=>exact Jz
   case aR=>exact (N7 ⟨(fun o ho us=>by obtain rfl:=Option.some.inj ho;kernel_rfl),(N7 ⟨(fun o ho us=>by obtain rfl:=Option.some.inj ho;kernel_rfl),(N7 ⟨(fun o ho us=>by obtain rfl:=Option.some.inj ho;kernel_rfl),(N7 ⟨(fun o ho us=>by obtain rfl:=Option.some.inj ho;kernel_rfl),Ik⟩)⟩)⟩)⟩)
   case aG=>
    refine (N7 ⟨?aI,(N7 ⟨?aJ,(N7 ⟨?aK,(N7 ⟨?aL,Ik⟩)⟩)⟩)⟩);case aI=>
     intro o ho us W hW hp Q' hQ';obtain rfl:=Option.some.inj ho;clear hp ho;rw[C8]at hQ' ⊢;dsimp only[F8,I2,List.foldl,zv,za,zs,zp,zb]at hQ' ⊢;simp only[Bu];go_wp2_with fail;refine (A3c u.ver u.key hu.key W).mono ?_;rintro e W2 ⟨v2,rfl,aO,b2⟩;have aO:=Lib.hid aO;go_wp2_with fail;exact Cm (hQ' _ _ b2 aO.out.same nofun)
    case aJ=>intro o ho us W hW hp Q' hQ';obtain rfl:=Option.some.inj ho;have aB:By W 0 W.heap.size (us 15) (Y8 u.ver u.key):=hp 0 _ rfl (by kernel_rfl);have aB:=Lib.hid aB;clear hp ho;rw[C8]at hQ' ⊢;dsimp only[F8,I2,List.foldl,zv,za,zs,zp,zb]at hQ' ⊢;simp only[Bu];go_wp2_with fail;refine (A8i u.id _ (Y8 u.ver u.key) u.sig hu.id hu.sig W aB.out (by rw[Rx u.ver hu.key];decide)).mono ?_;rintro e W2 ⟨rfl,b2⟩;go_wp2_with fail;exact Cm (hQ' _ _ b2 rfl nofun)
    case aK=>intro o ho us W hW hp Q' hQ';obtain rfl:=Option.some.inj ho;have aA:us 18=(.bool (Fq u.id 1 (Y8 u.ver u.key) u.sig)):=hp 1 _ rfl (by kernel_rfl);clear hp ho;rw[C8]at hQ' ⊢;dsimp only[F8,I2,List.foldl,zv,za,zs,zp,zb]at hQ' ⊢;simp only[Bu];rw[aA]at hQ' ⊢;clear aA;go_wp2_with fail;exact Cm (hQ' _ _ (Below.refl _ _) rfl nofun)
    case aL=>intro o ho us W hW hp Q' hQ';obtain rfl:=Option.some.inj ho;have aB:By W 0 W.heap.size (us 15) (Y8 u.ver u.key):=hp 0 _ rfl (by kernel_rfl);have aB:=Lib.hid aB;have aA:us 18=(.bool (Fq u.id 1 (Y8 u.ver u.key) u.sig)):=hp 1 _ rfl (by kernel_rfl);have aD:us 19=(.bool (Fq u.id 1 (Y8 u.ver u.key) u.sig)):=hp 2 _ rfl (by kernel_rfl);clear hp ho;rw[C8]at hQ' ⊢;dsimp only[F8,I2,List.foldl,zv,za,zs,zp,zb]at hQ' ⊢;simp only[Bu];rw[aA,aD]at hQ' ⊢;clear aA aD;go_wp2_with fail;exact Cm (hQ' _ _ (Below.refl _ _) rfl nofun)
   case aH=>
   intro us W2 b3 hg aP aS;have aM:By W2 0 W2.heap.size (us 15) (Y8 u.ver u.key):=hg _ (M6 0 rfl);have aM:=Lib.hid aM;have aA:us 18=(.bool (Fq u.id 1 (Y8 u.ver u.key) u.sig)):=hg _ (M6 1 rfl);have aD:us 19=(.bool (Fq u.id 1 (Y8 u.ver u.key) u.sig)):=hg _ (M6 2 rfl);have aN:us 20=(.bool (Fq u.id 1 (Y8 u.ver u.key) u.sig)):=hg _ (M6 3 rfl);have b4:=J5 S1 b3;refine RG' ?_;rw[aA,aD,aN];clear hg aP aS aA aD aN b3 S1;have B2:=J5 B0 b4;clear b4 B0 aC;refine Cu ?_;go_wp2_with fail;go_ret;exact ⟨by rw[HV.out];rfl,B2⟩
  ·
   have d1:=decide_eq_true h1;have d2:=decide_eq_false h2;have HV:=Lib.hid (A7y d2);have fv:=UV.loadver aC hu;rw[aE]at fv;go_enter Tryz.func27,Tryz.ntmps27;go_wp2_with fail;go_quiet (fail);rw[←aE];go_wp2_with fail;go_ret;exact ⟨by rw[HV.out];rfl,Q2 B0 _⟩
 ·
  have d1:=decide_eq_false h1;have HV:=Lib.hid (A7r d1);have fv:=UV.loadver aC hu;rw[aE]at fv;go_enter Tryz.func27,Tryz.ntmps27;go_wp2_with fail;go_quiet (fail);rw[←aE];go_wp2_with fail;go_ret;exact ⟨by rw[HV.out];rfl,Q2 B0 _⟩
end Go.Proofs.YtlegpkdighoflaaGreat
