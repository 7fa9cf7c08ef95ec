/- A part of the proof of DirAnswers. -/
import Derived.Shelf.SlMaps.Clone
import Derived.Test.YtlegpkdighoflaaGreatPbc
import Derived.Test.YtlegpkdighoflaaGreatPbe
set_option linter.unusedVariables false
set_option linter.unusedSimpArgs false
set_option maxRecDepth 100000
set_option maxHeartbeats 40000000
namespace Go.Proofs.YtlegpkdighoflaaGreat
open Go Go.RowKit Sh
theorem B4h (w:World):Calls Tryz.prog 46 #[.slice none 0 0] w fun e w'=>e=.returned (.slice none 0 0)∧w=w':=by
 have aA:∀(w:World) (a:Option Addr) (n c n' c':Nat),(binOp .eql 42 (.slice a n c) (.slice none n' c')).run Tryz.prog w=.ok (.bool a.isNone) w:=fun w a n c n' c'=>Lib.run_eql_slice_nil w _ _ a n c n' c' Tryz.underlying42;go_enter Tryz.func46,Tryz.ntmps46;go_wp2;go_ret;exact ⟨rfl,rfl⟩
theorem B0q (v:Value) (ks:List (List UInt8)) (w:World) (hv:Hs w 0 w.heap.size v ks) (hne:0<ks.length) (hn:ks.length≤1099511627) :
 Calls Tryz.prog 46 #[v] w fun e w'=>∃u,e=.returned u∧De w' w.heap.size u ks∧Below w.heap.size w w':=by
 obtain⟨A,c,aD,aK,aL⟩:=hv.form;obtain⟨aA,A',c',aE,_,_,aF⟩:=hv;have hA:A=A':=by rw[aD]at aE;injection aE
 subst hA;subst aD;have aM:A.isNone=false:=by
  rcases aF with h | ⟨g,o,h,_⟩
  ·have:=congrArg List.length h;rw[J0,Bt aA]at this;simp at this;omega
  ·rw[h];rfl
 have hl:=Bt aA;have aB:Rd (w.alloc (.cells #[] 23)) 0 w.heap.size A (c8 ks.flatten):=aF.below (Aw _ _);have aN:∀(w:World) (a:Option Addr) (n c n' c':Nat),(binOp .eql 42 (.slice a n c) (.slice none n' c')).run Tryz.prog w=.ok (.bool a.isNone) w:=fun w a n c n' c'=>Lib.run_eql_slice_nil w _ _ a n c n' c' Tryz.underlying42;go_enter Tryz.func46,Tryz.ntmps46;go_wp2_with (at_builtin;refine B7y 42 (A8 (z8 32)) 32 Tryz.underlying42 Xy (by simp[A8,Value.cells]) (by decide) (by decide) rfl _ _ rfl rfl (n:=0) (base:=w.heap.size) (World.ownsRow_made w #[] 0 (Nat.le_refl _) (Nat.zero_le _) (by simp)) A ks.length c rfl (c8 ks.flatten) (by simp[hl]) 0 _ aB (by intro u hu;obtain⟨x,_,rfl⟩:=List.mem_map.1 hu;rfl) (by omega) (by simp) ?_;intro A' c' w' aG aH aC aI aO aJ);go_ret;exact ⟨_,rfl,⟨aA,by simpa using aC⟩,(Aw _ _).trans aI⟩
def KS (w:World) (v:Value) (ks:List (List UInt8)):Prop:=(v=.slice none 0 0∧ks=[])∨(Hs w 0 w.heap.size v ks∧0<ks.length)
theorem KS.up {w w':World} {v:Value} {ks:List (List UInt8)} (h:KS w v ks) (hb:Below w.heap.size w w'):KS w' v ks:=by
 rcases h with h | ⟨h,hn⟩
 ·exact .inl h
 ·exact .inr ⟨(h.below hb).more hb.size,hn⟩
theorem A0f (v:Value) (ks:List (List UInt8)) (w:World) (hv:KS w v ks) (hn:ks.length≤1099511627) :
 Calls Tryz.prog 46 #[v] w fun e w'=>∃u,e=.returned u∧De w' w.heap.size u ks∧Below w.heap.size w w':=by
 rcases hv with ⟨rfl,rfl⟩ | ⟨h,hne⟩
 ·refine (B4h w).mono ?_;rintro e w' ⟨rfl,rfl⟩;exact ⟨_,rfl,De.nil _ _,Below.refl _ _⟩
 ·exact B0q v ks w h hne hn
theorem De.less {w:World} {base base':Nat} {v:Value} {ks:List (List UInt8)} (h:De w base v ks) (hb:base'≤base):De w base' v ks:=by
 refine ⟨h.1,h.2.1,?_⟩;rcases h.2.2 with h2 | ⟨g,cap,cur,hv,hg,r⟩
 ·exact .inl h2
 ·exact .inr ⟨g,cap,cur,hv,by omega,r⟩
def zk (i:Nat) (d:Tmp) (base:Nat) (ks:List (List UInt8)):Soup:=⟨i,d,fun v w=>De w base v ks,false⟩
def zl (i:Nat) (d:Tmp) (T:TypeId) (cs:List Value):Soup:=⟨i,d,fun v w=>∃p,v=.slice (some ⟨p,0,none⟩) 1 1∧Bk w p T cs,false⟩
theorem zk_mono (i:Nat) (d:Tmp) (base:Nat) (ks:List (List UInt8)):(zk i d base ks).mono:=fun _ _ _ h hb=>h.below hb (Nat.le_refl _)
theorem zl_mono (i:Nat) (d:Tmp) (T:TypeId) (cs:List Value):(zl i d T cs).mono:=fun _ _ _ ⟨p,e,h⟩ hb=>⟨p,e,h.bl hb⟩
noncomputable def Ih (ks:List (List UInt8)) (u:UV):Bool:=signedB u&&decide (u.ver=(ks.length:Int)+1)
noncomputable def Na (ks:List (List UInt8)) (u:UV):List (List UInt8):=if Ih ks u then ks++[u.key] else []
noncomputable def Md (ks:List (List UInt8)) (u:UV):Int:=if signedB u then (if u.ver=(ks.length:Int)+1 then 0 else 111) else 110
theorem C5b {ks:List (List UInt8)} {u:UV} (h:signedB u=false):Na ks u=[]∧Md ks u=110:=by
 unfold Na Md Ih;rw[h,Bool.false_and];exact ⟨if_neg (by decide),if_neg (by decide)⟩
theorem C1j {ks:List (List UInt8)} {u:UV} (h:signedB u=true) (h2:¬ u.ver=(ks.length:Int)+1):Na ks u=[]∧Md ks u=111:=by
 unfold Na Md Ih;rw[h,Bool.true_and,decide_eq_false h2,if_pos rfl,if_neg h2];exact ⟨if_neg (by decide),rfl⟩
theorem C4y {ks:List (List UInt8)} {u:UV} (h:signedB u=true) (h2:u.ver=(ks.length:Int)+1):Na ks u=ks++[u.key]∧Md ks u=0:=by
 unfold Na Md Ih;rw[h,Bool.true_and,decide_eq_true h2,if_pos rfl,if_pos h2];exact ⟨by first | rfl | exact if_pos rfl,rfl⟩
theorem KS.form {w:World} {v:Value} {ks:List (List UInt8)} (h:KS w v ks):∃A c,v=.slice A ks.length c:=by
 rcases h with ⟨rfl,rfl⟩ | ⟨h,_⟩
 ·exact ⟨none,0,rfl⟩
 ·obtain⟨A,c,e,_⟩:=h.form;exact ⟨A,c,e⟩
theorem B0w (v:Value) (ks:List (List UInt8)) (u:UV) (hu:u.Ok) (w:World) (hv:KS w v ks) (hkn:ks.length≤1000000):Calls Tryz.prog 29 #[v,Uk u] w fun e w'=>∃r,e=.returned (.tuple #[r,.int .i64 (Md ks u)])∧De w' w.heap.size r (Na ks u)∧Below w.heap.size w w':=by
 obtain⟨A,c,rfl⟩:=hv.form;have HP:=Lib.hid hv;have aN:=hu.key;have bB:=hu.len;obtain⟨n,hn⟩:=F9 (ks.length);have HN:=Lib.hid hn;rw[←hn]at HP hkn ⊢;clear hv hn;obtain⟨W0,aE⟩:=F9 ((w.alloc (Obj.cells (Cl u).toArray 63)));have hL:W0=M9 w [(63,(Cl u))]:=aE;have B0:=Ki hL;have aB:=Ko hL rfl;clear hL;have f1:=Bk.rowvc (n:=129) (aB) ((hu.len));rw[aE]at f1;go_enter Tryz.func29,Tryz.ntmps29;go_wp2_with fail;rw[←aE];clear f1;clear aE;refine (A2d u hu W0).mono ?_;rintro e W2 ⟨rfl,b3⟩;have B2:=K9 B0 b3;have aA:=aB.bl b3;clear b3 B0 aB;cases hsg:signedB u;case false=>
  have HR:=Lib.hid (C5b (ks:=ks) hsg);clear hsg;go_wp2_with fail;exact bodyPost_ret (v:=.tuple #[.slice none 0 0,.int .i64 110]) (N9 rfl (M7.tmp rfl) (M7.tmp rfl)) rfl ⟨_,by rw[HR.out.2],by rw[HR.out.1];exact De.nil _ _,B2⟩
 case true=>
  have HS:=Lib.hid hsg;clear hsg;by_cases hve:u.ver=(n:Int)+1
  ·
   have aO:(u.ver != (n:Int)+1)=false:=by rw[hve];simp
   have HR:=Lib.hid (C4y HS.out (by rw[←HN.out];exact hve));clear hve;have f4:=UV.loadver (aA) hu;go_wp2_with fail;clear f4;clear aO;have S0:=Fx W2;have aQ:=Lib.hid (HP.out.up (E3 B2 S0 B2.size));refine Fa (fun W=>Bk W (w.heap.size) 63 (Cl u)) ?_;refine Df (A:=?bC) [0,2,3] (aA.drew) (fun W hW=>?aR) ?bD;case aR=>have f3:=UV.loadkey hW hu;exact Ei
   refine J8 [zk 1 18 W2.drew.heap.size ks,zl 4 21 23 (c8 u.key)] (by kernel_rfl) (fun W hW=>aA.drew.bl hW) ?aS ?aT ?aU;case aS=>exact P5 ⟨zk_mono _ _ _ _,P5 ⟨zl_mono _ _ _ _,fun _ h=>by cases h⟩⟩
   case aT=>
    refine P5 ⟨?s1,P5 ⟨?s4,fun _ h=>by cases h⟩⟩;case s1=>
     intro o ho us W hW hp Q' hQ';obtain rfl:=Option.some.inj ho;clear hp ho;rw[C7]at hQ' ⊢;dsimp only[F0,H8,List.foldl,zk,zl]at hQ' ⊢;simp only[Ch];have aV:=Lib.hid (aQ.out.up hW);go_wp2_with fail;refine (A0f _ ks W aV.out (by rw[←HN.out];omega)).mono ?_;rintro e W2 ⟨r,rfl,O2,b2⟩;have O2:=Lib.hid (O2.less hW.size);go_wp2_with fail;exact Cz (hQ' _ _ b2 O2.out nofun)
    case s4=>intro o ho us W hW hp Q' hQ';obtain rfl:=Option.some.inj ho;clear hp ho;rw[C7]at hQ' ⊢;dsimp only[F0,H8,List.foldl,zk,zl]at hQ' ⊢;simp only[Ch];go_wp2_with fail;exact Cz (hQ' _ _ (Aw _ _) ⟨_,rfl,Bk.new W _ (c8 u.key)⟩ nofun)
   case aU=>
    intro us W1 b1 hg aG aW;have O1:De W1 W2.drew.heap.size (us 1) ks:=hg _ (O8 0 rfl);obtain⟨p,aF,K4⟩:=hg _ (O8 1 rfl);have aF:us 4=.slice (some ⟨p,0,none⟩) 1 1:=aF;have K4:Bk W1 p 23 (c8 u.key):=K4;obtain⟨A1,c1,aH,_,_⟩:=O1.form;rw[aH]at O1;rw[C7];dsimp only[H8,List.foldl,zk,zl];simp only[Ch];rw[aH,aF];clear hg aG aW aH aF;have aI:=aA.drew.bl b1;have BX:=E3 B2 (E3 S0 b1 S0.size) B2.size;have zc:=Nat.le_trans B2.size S0.size;have z1:=b1.size;rw[←HN.out]at O1 ⊢;have HO:=Lib.hid O1;have aX:Hid (Rd W1 0 W1.heap.size (some ⟨p,0,none⟩) (c8 u.key)):=Lib.hid (.inr ⟨p,0,rfl,Nat.zero_le _,K4.lt,fun j x hj=>by rw[Nat.zero_add];exact K4.at_ hj⟩);have aY:Hid (∀x∈c8 u.key,x.oneCell'=true):=Lib.hid (by intro x hx;obtain⟨y,_,rfl⟩:=List.mem_map.1 hx;rfl);clear O1 K4;refine U7 5 fun Q' hQ'=>?_;dsimp only[F0];have aP:=Lib.hid hQ';clear hQ';go_wp2_with (at_builtin;refine B7y 42 (A8 (z8 32)) 32 Tryz.underlying42 Xy (by simp[A8,Value.cells]) (by decide) (by decide) rfl _ _ rfl rfl (n:=n) (base:=W2.drew.heap.size) (xs:=c8 ks.flatten) (by have:=HO.out.2;rwa [←HN.out]at this) (some ⟨p,0,none⟩) 1 1 rfl (c8 u.key) (by simp[aN]) 0 _ aX.out aY.out (by omega) z1 ?_;intro A' c' w5 aJ aK aD aL aZ aM);have aC:=aI.below aL aA.drew.lt;have bA:Hid (De w5 W2.drew.heap.size (.slice A' (n+1) c') (ks++[u.key])):=Lib.hid ⟨fun q hq=>by
     rcases List.mem_append.1 hq with hq | hq
     ·exact HO.out.1 q hq
     ·simp at hq;subst hq;exact aN,by
     have e:c8 (ks++[u.key]).flatten=c8 ks.flatten++c8 u.key:=by simp[c8]
     rw[e,List.length_append,List.length_singleton,←HN.out];exact aD⟩
    have B5:=BX.trans (aL.mono zc);clear aD aZ aM aJ aK aL;refine aP.out _ _ aC ?_;clear aP;refine U7 6 fun Q' hQ'=>?_;dsimp only[F0];go_wp2_with fail;refine hQ' _ _ aC ?_;clear hQ';refine U7 7 fun Q' hQ'=>?_;dsimp only[F0];go_wp2_with fail;refine hQ' _ _ aC ?_;clear hQ';refine Ef ?_;go_wp2_with fail;exact bodyPost_ret (v:=.tuple #[.slice A' (n+1) c',.int .i64 0]) (N9 rfl (M7.tmp rfl) (M7.tmp rfl)) rfl ⟨_,by rw[HR.out.2],by rw[HR.out.1];exact bA.out.less zc,B5⟩
  ·
   have aO:(u.ver != (n:Int)+1)=true:=by simpa using hve
   have HR:=Lib.hid (C1j HS.out (by rw[←HN.out];exact hve));clear hve;have f5:=UV.loadver (aA) hu;go_wp2_with fail;clear f5;exact bodyPost_ret (v:=.tuple #[.slice none 0 0,.int .i64 111]) (N9 rfl (M7.tmp rfl) (M7.tmp rfl)) rfl ⟨_,by rw[HR.out.2],by rw[HR.out.1];exact De.nil _ _,B2⟩
theorem B3w (e:Int) (p:Value) (d:Int) (m:Value) (w:World) :
 Calls Tryz.prog 19 #[.agg #[.int .i64 e,p,.int .i64 d,m]] w fun x w'=>x=.returned (.int .i64 e)∧Below w.heap.size w w':=by
 go_enter Tryz.func19,Tryz.ntmps19;go_wp2;go_ret;exact ⟨rfl,Aw _ _⟩
theorem B6t (t:Tr) (e:Int) (p:Value) (d:Int) (m:Value) (w:World) (h:At w w.heap.size t p) :
 Calls Tryz.prog 17 #[.agg #[.int .i64 e,p,.int .i64 d,m]] w fun x w'=>x=.returned (A8 t.root)∧Below w.heap.size w w':=by
 have hl:=Tr.root_length t;obtain⟨ap,rfl⟩:=h.form;obtain⟨w0,aA⟩:=F9 ((w.alloc (Obj.cells #[.int .i64 e,.pointer ap,.int .i64 d,m] 34)).alloc (Obj.cells (c8 (z8 32)).toArray 23));have B0:Below w.heap.size w w0:=by rw[aA];exact (Aw _ _).alloc (by simp) _
 have R0:Bk w0 (w.heap.size+1) 23 (c8 (z8 32)):=by rw[aA];simpa using Bk.new (w.alloc (Obj.cells #[.int .i64 e,.pointer ap,.int .i64 d,m] 34)) 23 (c8 (z8 32))
 go_enter Tryz.func17,Tryz.ntmps17;go_wp2_with fail;rw[←aA];clear aA;refine (A4c t _ _ w0 ((h.below B0).more B0.size)).mono ?_;rintro x w1 ⟨rfl,h1⟩;have R1:=R0.bl h1;have B1:=K9 B0 h1;have aB:=Gy 32 R1 (by simp);go_wp2_with fail;exact bodyPost_ret (E5 rfl _ _ _ _ _ _ rfl (R1.puts (vs:=c8 t.root) (by simp[hl])) Tryz.underlying23 rfl (by simp[P6,hl])) rfl ⟨rfl,C5 B1 (by simp) _⟩
def RV (v:Value):Option (DataW Value×List MemPlace):=some (.held v,[])
def MapV (w:World) (b n:Nat) (m:List UInt8→Option Value):Prop:=∃D:DataW Value,w.ownsMap Tryz.prog 23 RV b n D∧
 ∀k:List UInt8,k.length=32→Maps.has D (A1a k)=(m k).isSome∧∀z,D.atKey (A1a k) z=(match m k with | some v=>.held v | none=>z)
def B9r (m:List UInt8→Option Value) (k:List UInt8) (v:Value):List UInt8→Option Value:=fun x=>if x=k then some v else m x
theorem MapV.made (w:World):MapV (w.alloc (.map #[] 0)) w.heap.size 0 (fun _=>none):=⟨.map [],World.ownsMap_made _ _ _ _,fun k hk=>⟨rfl,fun z=>rfl⟩⟩
theorem MapV.put {w:World} {b n:Nat} {m:List UInt8→Option Value} (h:MapV w b n m) {k:List UInt8} (hk:k.length=32) (v:Value) :
 ∃D:DataW Value,w.ownsMap Tryz.prog 23 RV b n D∧∀w',w'.ownsMap Tryz.prog 23 RV b (n+1) (D.put (A1a k) (.held v))→MapV w' b (n+1) (B9r m k v):=by
 obtain⟨D,hD,hl⟩:=h;refine ⟨D,hD,fun w' h'=>⟨_,h',fun k' hk'=>?_⟩⟩;unfold B9r;by_cases e:k'=k
 ·subst e;rw[if_pos rfl];exact ⟨Maps.has_put_same hD.isMap (A7x hk) _,fun z=>Maps.atKey_put_same hD.isMap (A7x hk) _ _⟩
 ·rw[if_neg e];have aA:=C6v hk' hk e;exact ⟨(Maps.has_put_other aA _).trans (hl k' hk').1,fun z=>(Maps.atKey_put_other aA _ _).trans ((hl k' hk').2 z)⟩
theorem MapV.kept {w w':World} {b n:Nat} {m:List UInt8→Option Value} {row:Option Nat} (h:MapV w b n m) (hg:w.grownBy w' row) (hne:some b≠row):MapV w' b n m:=by
 obtain⟨D,hD,h1⟩:=h;exact ⟨D,hD.kept hg hne,h1⟩
theorem MapV.below {w w':World} {b n B:Nat} {m:List UInt8→Option Value} (h:MapV w b n m) (hb:Below B w w') (hB:w.heap.size≤B):MapV w' b n m:=
 h.kept (row:=none) ⟨hb.os,hb.tape,hb.output,hb.size,fun k hk _=>hb.block k (by omega)⟩ (by simp)
theorem MapV.setCell {w:World} {b n:Nat} {m:List UInt8→Option Value} (h:MapV w b n m) {a:Addr} (ha:b≠a.block) (u:Value):MapV (w.setCell a u) b n m:=by
 obtain⟨D,hD,h1⟩:=h;exact ⟨D,hD.setCell ha u,h1⟩
theorem B5g (w:World):(zeroValue 42).run Tryz.prog w=.ok (.slice none 0 0) w:=by kernel_rfl
theorem MapV.look {w:World} {b n:Nat} {m:List UInt8→Option Value} (h:MapV w b n m) {k:List UInt8} (hk:k.length=32) :
 (Instr.lookup 32 (.map (some b)) (A8 k) false).run Tryz.prog w=.ok ((m k).getD (.slice none 0 0)) w:=by
 obtain⟨D,⟨es,aA,hb,F,_,rfl⟩,hl⟩:=h;obtain⟨_,h2⟩:=hl k hk;rcases Maps.fit_look false Li Tryz.underlying32 (B5g w) hb F (Rs hk) with ⟨hrun,_,hat⟩ | ⟨e0,y,_,_,hrun,hRv,hat,_⟩
 ·cases hm:m k with
  | none=>exact hrun
  | some v=>
   have h3:=h2 .nil;rw[hat,hm]at h3;cases h3
 ·have hy:y.1=.held e0.val:=by have:some (DataW.held e0.val,([]:List MemPlace))=some y:=hRv;injection this with this;rw[←this]
  cases hm:m k with
  | none=>
   have h3:=h2 .nil;rw[hat,hm,hy]at h3;cases h3
  | some v=>
   have h3:=h2 .nil;rw[hat,hm,hy]at h3;injection h3 with h3;rw[←h3];exact hrun
def MV (w:World) (mv:Value) (m:List UInt8→Option Value):Prop:=(mv=.map none∧∀k,m k=none)∨∃b n,mv=.map (some b)∧MapV w b n m
theorem MV.up {w w':World} {mv:Value} {m:List UInt8→Option Value} (h:MV w mv m) (hb:Below w.heap.size w w'):MV w' mv m:=by
 rcases h with h | ⟨b,n,h1,h2⟩
 ·exact .inl h
 ·exact .inr ⟨b,n,h1,h2.below hb (Nat.le_refl _)⟩
theorem MV.look {w:World} {mv:Value} {m:List UInt8→Option Value} (h:MV w mv m) {k:List UInt8} (hk:k.length=32) :
 (Instr.lookup 32 mv (A8 k) false).run Tryz.prog w=.ok ((m k).getD (.slice none 0 0)) w:=by
 rcases h with ⟨rfl,hm⟩ | ⟨b,n,rfl,h2⟩
 ·rw[hm k];exact Maps.look_nil false Li Tryz.underlying32 (B5g w) (Rs hk)
 ·exact h2.look hk
def A3p (w:World) (m:List UInt8→Option Value) (K:List UInt8→List (List UInt8)):Prop:=∀k,KS w ((m k).getD (.slice none 0 0)) (K k)
theorem A3p.up {w w':World} {m:List UInt8→Option Value} {K:List UInt8→List (List UInt8)} (h:A3p w m K) (hb:Below w.heap.size w w'):A3p w' m K:=fun k=>(h k).up hb
theorem A3s (e:Int) (ap:Option Addr) (d:Int) (mv:Value) (hmv:mv=.map none∨∃b,mv=.map (some b)) (m:List UInt8→Option Value) (K:List UInt8→List (List UInt8)) (id:List UInt8) (hid:id.length=32) (hkn:(K id).length≤1099511627) (w:World) (hm:MV w mv m) (hK:A3p w m K) :
 Calls Tryz.prog 23 #[.agg #[.int .i64 e,.pointer ap,.int .i64 d,mv],A8 id] w fun x w'=>∃u,x=.returned u∧De w' w.heap.size u (K id)∧Below w.heap.size w w':=by
 obtain⟨w0,aB⟩:=F9 ((w.alloc (Obj.cells #[.int .i64 e,.pointer ap,.int .i64 d,mv] 34)).alloc (Obj.cells (c8 id).toArray 23));have B0:Below w.heap.size w w0:=by rw[aB];exact (Aw _ _).alloc (by simp) _
 have aA:=(hm.up B0).look hid;have aC:=Lib.hid ((hK.up B0) id);have I0:Bk w0 (w.heap.size+1) 23 (c8 id):=by rw[aB];simpa using Bk.new (w.alloc (Obj.cells #[.int .i64 e,.pointer ap,.int .i64 d,mv] 34)) 23 (c8 id)
 have ri:=Bk.row8 (n:=32) I0 hid;obtain⟨v,hv⟩:=F9 ((m id).getD (.slice none 0 0));rw[←hv]at aA aC;rw[aB]at aA ri;clear hv I0 hm hK;rcases hmv with rfl | ⟨b,rfl⟩;all_goals
  go_enter Tryz.func23,Tryz.ntmps23;go_wp2_with fail;rw[←aB];refine (A0f v _ w0 aC.out hkn).mono ?_;rintro x w1 ⟨u,rfl,O1,b1⟩;have O:=Lib.hid (De.less O1 B0.size);clear O1;go_wp2_with fail;go_ret;exact ⟨_,rfl,O.out,E3 B0 b1 B0.size⟩
theorem B3m (w:World):Calls Tryz.prog 28 #[.map none] w fun e w'=>e=.returned (.map none)∧w=w':=by
 have hq:=fun w=>run_eql_map_nil_sl (P:=Tryz.prog) w 32 _ _ none Tryz.underlying32;go_enter Tryz.func28,Tryz.ntmps28;go_wp2;go_ret;exact ⟨rfl,rfl⟩
theorem B1p (b:Nat) (es:Array MapEntry) (clock:Nat) (w:World) (hb:w.heap[b]?=some (.map es clock)) :
 Calls Tryz.prog 28 #[.map (some b)] w fun e w'=>e=.returned (.map (some w.heap.size))∧w'=w.alloc (.map es clock):=by
 have hq:=fun w=>run_eql_map_nil_sl (P:=Tryz.prog) w 32 _ _ (some b) Tryz.underlying32;have aA:(callFunc 51 #[.iface 32 (.map (some b))]).run Tryz.prog w=.ok (.value (.iface 32 (.map (some w.heap.size)))) (w.alloc (.map es clock)):=by rw[run_callFunc_extern Tryz.func51 (by kernel_rfl) (by kernel_rfl) (by kernel_rfl) (e:=Extern.MapsClone.clone) (by kernel_rfl),run_maps_clone_sl w 32 hb];rfl
 have aB:=fun (W:World) (v:Value)=>run_typeAssert_map_sl (P:=Tryz.prog) W 32 20 _ _ v Tryz.underlying32;go_enter Tryz.func28,Tryz.ntmps28;go_wp2;go_ret;exact ⟨rfl,rfl⟩
section
abbrev En := List UInt8 × List (List UInt8)
def lookE:List En→List UInt8→List (List UInt8)
 | [],_=>[]
 | q::L,x=>if q.1=x then q.2 else lookE L x
def pairsE (L:List En):List Pr:=L.map fun q=>(q.1,Dk q.2)
noncomputable def Cr (id key:List UInt8) (L:List En):List En:=(L.filter fun q=>Db q.1 id)++[(id,lookE L id++[key])]++(L.filter fun q=>Db id q.1)
structure OkE (L : List En) : Prop where
 id:∀q∈L,q.1.length=32
 one:∀q∈L,0<q.2.length
 key:∀q∈L,∀k∈q.2,k.length=32
 rise:L.Pairwise fun x y=>klt x.1 y.1
theorem OkE.nil:OkE []:=⟨by simp,by simp,by simp,List.Pairwise.nil⟩
theorem Ji:∀ {L:List En},L.Pairwise (fun x y=>klt x.1 y.1)→∀q∈L,lookE L q.1=q.2
 | [],_,q,h=>by cases h
 | p::L,hp,q,h=>by
  rw[List.pairwise_cons]at hp;unfold lookE;rcases List.mem_cons.1 h with rfl | h
  ·rw[if_pos rfl]
  ·rw[if_neg (hp.1 q h).ne];exact Ji hp.2 q h
theorem Lw:∀ {L:List En} {x:List UInt8},(∀q∈L,q.1≠x)→lookE L x=[]
 | [],_,_=>rfl
 | p::L,x,h=>by
  unfold lookE;rw[if_neg (h p (by simp))];exact Lw fun q hq=>h q (by simp[hq])
theorem B7z {L:List En} (hk:∀q∈L,∀k∈q.2,k.length=32) (x:List UInt8):∀k∈lookE L x,k.length=32:=by
 induction L with
 | nil=>intro k h;cases h
 | cons p L ih=>
  unfold lookE;split
  ·exact hk p (by simp)
  ·exact ih fun q hq=>hk q (by simp[hq])
section
variable {L : List En} {id key : List UInt8}
theorem Lj (ok:OkE L) (hid:id.length=32) (q:En):q∈Cr id key L↔q=(id,lookE L id++[key])∨(q∈L∧q.1≠id):=by
 unfold Cr;simp only[List.mem_append,List.mem_filter,List.mem_singleton];constructor
 ·rintro ((⟨h1,h2⟩ | rfl) | ⟨h1,h2⟩)
  ·exact .inr ⟨h1,(U1.1 h2).ne⟩
  ·exact .inl rfl
  ·exact .inr ⟨h1,fun e=>(U1.1 h2).ne e.symm⟩
 ·rintro (rfl | ⟨h1,h2⟩)
  ·exact .inl (.inr rfl)
  ·rcases klt.total (ok.id q h1) hid h2 with h3 | h3
   ·exact .inl (.inl ⟨h1,U1.2 h3⟩)
   ·exact .inr ⟨h1,U1.2 h3⟩
theorem OkE.with (ok:OkE L) (hid:id.length=32) (hkey:key.length=32):OkE (Cr id key L):=by
 refine ⟨fun q hq=>?_,fun q hq=>?_,fun q hq=>?_,?_⟩
 ·rcases (Lj ok hid q).1 hq with rfl | h
  ·exact hid
  ·exact ok.id q h.1
 ·rcases (Lj ok hid q).1 hq with rfl | h
  ·simp
  ·exact ok.one q h.1
 ·rcases (Lj ok hid q).1 hq with rfl | h
  ·intro k hk;rcases List.mem_append.1 hk with hk | hk
   ·exact B7z ok.key id k hk
   ·simp at hk;subst hk;exact hkey
  ·exact ok.key q h.1
 ·unfold Cr;rw[List.pairwise_append,List.pairwise_append];refine ⟨⟨ok.rise.sublist List.filter_sublist,List.pairwise_singleton _ _,?_⟩,ok.rise.sublist List.filter_sublist,?_⟩
  ·intro a ha b hb;simp only[List.mem_singleton]at hb;subst hb;exact U1.1 (List.mem_filter.1 ha).2
  ·intro a ha b hb;have h2:=U1.1 (List.mem_filter.1 hb).2;rcases List.mem_append.1 ha with ha | ha
   ·exact (U1.1 (List.mem_filter.1 ha).2).trans h2
   ·simp only[List.mem_singleton]at ha;subst ha;exact h2
theorem Lt (ok:OkE L) (hid:id.length=32) (hkey:key.length=32) (x:List UInt8):lookE (Cr id key L) x=if x=id then lookE L id++[key] else lookE L x:=by
 have aA:=ok.with (id:=id) (key:=key) hid hkey;by_cases e:x=id
 ·subst e;rw[if_pos rfl];exact Ji aA.rise _ ((Lj ok hid _).2 (.inl rfl))
 ·rw[if_neg e];by_cases h:∃q∈L,q.1=x
  ·obtain⟨q,hq,rfl⟩:=h;rw[Ji ok.rise q hq];exact Ji aA.rise q ((Lj ok hid _).2 (.inr ⟨hq,e⟩))
  ·have h':∀q∈L,q.1≠x:=fun q hq he=>h ⟨q,hq,he⟩;rw[Lw h'];refine Lw fun q hq=>?_;rcases (Lj ok hid q).1 hq with rfl | h2
   ·exact fun he=>e he.symm
   ·exact h' q h2.1
theorem B3x:pairsE (Cr id key L)=A9w id (Dk (lookE L id++[key])) (pairsE L):=by
 unfold pairsE Cr A9w;rw[List.map_append,List.map_append,List.filter_map,List.filter_map];rfl
theorem Eu:(pairsE L).length=L.length:=by simp[pairsE]
theorem A7t {t:Tr} (okt:Okt t) (ok:OkE L) (hp:t.pairs=pairsE L) (x:List UInt8):t.look x 0=if (lookE L x).length=0 then none else some (Dk (lookE L x)):=by
 by_cases h:∃q∈L,q.1=x
 ·obtain⟨q,hq,rfl⟩:=h;rw[Ji ok.rise q hq,if_neg (Nat.ne_of_gt (ok.one q hq)),A4m okt,hp];exact List.mem_map.2 ⟨q,hq,rfl⟩
 ·have h':∀q∈L,q.1≠x:=fun q hq he=>h ⟨q,hq,he⟩;rw[Lw h',if_pos (show ([]:List (List UInt8)).length=0 from rfl)];cases hl:t.look x 0 with
  | none=>rfl
  | some v=>
   exfalso;rw[A4m okt,hp]at hl;obtain⟨q,hq,e⟩:=List.mem_map.1 hl;injection e with e1 e2;exact h' q hq e1
theorem Wg {t:Tr} (okt:Okt t) (hp:t.pairs=pairsE L) (hid:id.length=32):Okt (A0q t id (Dk (lookE L id++[key])))∧(A0q t id (Dk (lookE L id++[key]))).pairs=pairsE (Cr id key L):=by
 refine ⟨okt.put hid (Gu _),?_⟩;rw[B3x,←hp];exact (B7v hid (Gu _) okt).symm
theorem A8l {t:Tr} (okt:Okt t) (hp:t.pairs=pairsE L) (hid:id.length=32):(Cr id key L).length≤L.length+1:=by
 have h:=C4n (v:=Dk (lookE L id++[key])) okt hid;have h2:=(Wg (key:=key) okt hp hid).2;rw[Tr.len_pairs,h2,Eu,Tr.len_pairs,hp,Eu]at h;exact h
end
noncomputable def Kf (L:List En) (u:UV):List En:=if Ih (lookE L u.id) u then Cr u.id u.key L else L
noncomputable def applyE (us:List UV) (L:List En):List En:=us.foldl Kf L
theorem Oz {ks:List (List UInt8)} {u:UV}:Md ks u=0↔Ih ks u=true:=by
 unfold Md Ih;cases h:signedB u
 ·simp
 ·by_cases h2:u.ver=(ks.length:Int)+1<;>simp[h2]
theorem A4l {ks:List (List UInt8)} {u:UV} (h:Ih ks u=true):Na ks u=ks++[u.key]:=if_pos h
end
section
structure Sv where
 a:Option Addr
 n:Nat
 c:Nat
def Sv.v (s:Sv):Value:=.slice s.a s.n s.c
structure Rw where
 id:List UInt8
 s:Sv
def Rw.cells (r:Rw):List Value:=c8 r.id++[r.s.v]
def Rw.V (r:Rw):Value:=.agg r.cells.toArray
def rwz:Rw:=⟨z8 32,⟨none,0,0⟩⟩
theorem Rw.len {r:Rw} (h:r.id.length=32):r.cells.length=33:=by simp[Rw.cells,h]
theorem Rw.one (r:Rw):∀x∈r.cells,x.oneCell'=true:=by
 intro x hx;simp only[Rw.cells,List.mem_append,List.mem_singleton]at hx;rcases hx with hx | rfl
 ·obtain⟨y,_,rfl⟩:=List.mem_map.1 hx;rfl
 ·rfl
theorem A8n:(Tryz.prog.info? 44).map (·.size)=some 33:=by kernel_rfl
theorem A8p:((Tryz.prog.info? 44).bind (·.zero))=some rwz.V:=by kernel_rfl
theorem D2f:(Tryz.prog.info? 44).map (fun i=>(i.zero,i.size,i.bytes))=some (some rwz.V,33,56):=by kernel_rfl
theorem A1c:Tryz.prog.underlying 44=some (.struct (X6 Tryz.prog 44)):=by kernel_rfl
theorem B4n (w:World):(Gj (X6 Tryz.prog 44)).run Tryz.prog w=.ok #[(0,32),(32,1)] w:=by kernel_rfl
@[go_sem] theorem E7l (r : Rw) : Value.agg r.cells.toArray = r.V := rfl
@[go_sem] theorem D3n (n : Nat) (w : World) (raw : Result Next) (a : Addr) (r : Rw) : Cu n w raw (.pointer (some a)) r.V =
 if r.cells.length=n∧T5 w a n=true then .ok .skip (D8 w a r.cells) else raw:=by
 have h1:(r.cells.toArray.all (·.oneCell'))=true:=by rw[Array.all_eq_true'];intro x hx;exact r.one x (by simpa using hx)
 unfold Rw.V;rw[Tj,h1];simp only[List.size_toArray,true_and]
section
variable (w : World) (ρ : Operand → Value) (dst : Option Tmp) (ty : TypeId) (pos : String) (after : Array Edge) (guard : Option (Nat × Bool))
@[go_sem ↓ high] theorem E2x:RL' 44 33:=LL' A1c A8n
@[go_sem ↓ high] theorem D6x:RS' 44 33:=SS' A8n
@[go_sem ↓ high] theorem D6v:RA' 44 rwz.cells.toArray:=fun w ρ dst ty pos after guard=>U6 w ρ dst ty pos after guard 44 rwz.V A8p
end
noncomputable def C8o (w:World) (raw:Result Next) (a b:Value):Result Next:=match Ec a,b with
 | some i,.slice A n c=>if i.length=32 then .ok (.value (Rw.V ⟨i,⟨A,n,c⟩⟩)) w else raw
 | _,_=>raw
@[go_sem] theorem E5d (w : World) (raw : Result Next) (i : List UInt8) (A : Option Addr) (n c : Nat) (hi : i.length = 32) : C8o w raw (A8 i) (.slice A n c) = .ok (.value (Rw.V ⟨i, ⟨A, n, c⟩⟩)) w := by
 unfold C8o;simp only[Ea];simp[hi]
theorem D3b (i:List UInt8) (hi:i.length=32) (A:Option Addr) (n c:Nat) (w:World):(Instr.build 44 #[(0,A8 i),(1,.slice A n c)]).run Tryz.prog w=.ok (Rw.V ⟨i,⟨A,n,c⟩⟩) w:=by
 have aA:rwz.V.cells.toList=c8 (z8 32)++[.slice none 0 0]:=rfl;have h1:=Y6 A1c A8p w (B4n w) #[(0,A8 i),(1,.slice A n c)] [(0,c8 i),(32,[.slice A n c])] (by
  rw[aA];exact ⟨by simp[hi],rfl,by simp[hi],by simp,rfl,by simp,trivial⟩)
 refine h1.trans (congrArg (fun (cs:List Value)=>Result.ok (Value.agg cs.toArray) w) ?_);rw[aA];simp[Ib,Bp,hi,List.take_append,List.drop_append,List.drop_eq_nil_of_le,List.take_of_length_le,Rw.cells,Sv.v,c8]
@[go_sem ↓ high] theorem D6c (w : World) (ρ : Operand → Value) (dst : Option Tmp) (ty : TypeId) (pos : String) (after : Array Edge) (guard : Option (Nat × Bool)) (x y : Operand) :
 (execOp ρ { dst,op:=.build 44 #[(0,x),(1,y)],type:=ty,pos,after,guard }).run Tryz.prog w=C8o w (Q0 Tryz.prog ρ { dst,op:=.build 44 #[(0,x),(1,y)],type:=ty,pos,after,guard } w) (ρ x) (ρ y):=by
 generalize h0:ρ x=a;generalize h1:ρ y=b;unfold C8o;split
 ·rename_i i A n c g0
  replace g0:=Y9 g0;split
  ·rename_i h
   refine T6 w ρ dst ty pos after guard _ _ _ ?_;simp only[List.map_toArray,List.map_cons,List.map_nil,h0,h1,g0];exact D3b i h A n c w
  ·rfl
 ·rfl
@[go_sem ↓ high] theorem E7f (w : World) (ρ : Operand → Value) (dst : Option Tmp) (ty : TypeId) (pos : String) (after : Array Edge) (guard : Option (Nat × Bool)) (x : Operand) :
 (execOp ρ { dst,op:=.buildSlice 35 1 #[(0,x)],type:=ty,pos,after,guard }).run Tryz.prog w=Mq 33 44 w (Q0 Tryz.prog ρ { dst,op:=.buildSlice 35 1 #[(0,x)],type:=ty,pos,after,guard } w) (ρ x):=
 Xa w ρ dst ty pos after guard 35 44 33 56 rwz.V x Tryz.underlying35 D2f (by simp[Rw.V,rwz,Rw.cells,Value.cells]) (by decide) (by decide)
@[go_sem] theorem E3m (n : Nat) (e : TypeId) (w : World) (raw : Result Next) (r : Rw) (h : r.cells.length = n) : Mq n e w raw r.V = .ok (.value (.slice (some ⟨w.heap.size, 0, none⟩) 1 1)) (w.alloc (.cells r.cells.toArray e)) := by
 unfold Rw.V;rw[A3v,if_pos (by simpa using h)]
section
variable {w w' : World} {B B' : Nat} {v : Value} {R : List Rw} {L : List En} {r : Rw} {q : En}
def A3k (w:World) (B:Nat) (r:Rw) (q:En):Prop:=r.id=q.1∧q.1.length=32∧0<q.2.length∧Hs w 0 B r.s.v q.2
def Eg (w:World) (B:Nat):List Rw→List En→Prop
 | [],[]=>True
 | r::R,q::L=>A3k w B r q∧Eg w B R L
 | _,_=>False
theorem A3k.below (h:A3k w B r q) (hb:Below B w w'):A3k w' B r q:=⟨h.1,h.2.1,h.2.2.1,h.2.2.2.below hb⟩
theorem A3k.more (h:A3k w B r q) (hB:B≤B'):A3k w B' r q:=⟨h.1,h.2.1,h.2.2.1,h.2.2.2.more hB⟩
theorem Eg.below:∀ {R:List Rw} {L:List En},Eg w B R L→Below B w w'→Eg w' B R L
 | [],[],_,_=>trivial
 | _::_,_::_,h,hb=>⟨h.1.below hb,Eg.below h.2 hb⟩
 | [],_::_,h,_=>h.elim
 | _::_,[],h,_=>h.elim
theorem Eg.more:∀ {R:List Rw} {L:List En},Eg w B R L→B≤B'→Eg w B' R L
 | [],[],_,_=>trivial
 | _::_,_::_,h,hb=>⟨h.1.more hb,Eg.more h.2 hb⟩
 | [],_::_,h,_=>h.elim
 | _::_,[],h,_=>h.elim
theorem Eg.len:∀ {R:List Rw} {L:List En},Eg w B R L→R.length=L.length
 | [],[],_=>rfl
 | _::R,_::L,h=>by simp[Eg.len h.2]
 | [],_::_,h=>h.elim
 | _::_,[],h=>h.elim
theorem Eg.at_:∀ {R:List Rw} {L:List En},Eg w B R L→∀ {i:Nat} {q:En},L[i]?=some q→∃r,R[i]?=some r∧A3k w B r q
 | [],[],_,i,q,h=>by simp at h
 | r::R,p::L,h,0,q,hq=>by simp at hq;subst hq;exact ⟨r,rfl,h.1⟩
 | r::R,p::L,h,i+1,q,hq=>by
  obtain⟨r',h1,h2⟩:=Eg.at_ h.2 (i:=i) (q:=q) (by simpa using hq);exact ⟨r',by simpa using h1,h2⟩
 | [],_::_,h,_,_,_=>h.elim
 | _::_,[],h,_,_,_=>h.elim
theorem Eg.ids:∀ {R:List Rw} {L:List En},Eg w B R L→∀r∈R,r.id.length=32
 | [],[],_,r,h=>by cases h
 | r::R,p::L,h,r',hr=>by
  rcases List.mem_cons.1 hr with rfl | hr
  ·rw[h.1.1];exact h.1.2.1
  ·exact Eg.ids h.2 r' hr
 | [],_::_,h,_,_=>h.elim
 | _::_,[],h,_,_=>h.elim
end
theorem D1q:∀ {R:List Rw},(∀r∈R,r.id.length=32)→(R.flatMap Rw.cells).length=R.length*33
 | [],_=>rfl
 | r::R,h=>by
  have hu:=Rw.len (h r (by simp));rw[List.flatMap_cons,List.length_append,D1q (fun x hx=>h x (by simp[hx])),hu,List.length_cons];omega
theorem E0u:∀ {R:List Rw},(∀r∈R,r.id.length=32)→∀ {i:Nat} {r:Rw},R[i]?=some r→((R.flatMap Rw.cells).drop (i*33)).take 33=r.cells
 | [],_,i,r,h=>by simp at h
 | x::R,h,0,r,hr=>by
  have hx:=Rw.len (h x (by simp));obtain rfl:x=r:=by simpa using hr
  rw[List.flatMap_cons,Nat.zero_mul,List.drop_zero,List.take_append_of_le_length (by omega),List.take_of_length_le (by omega)]
 | x::R,h,i+1,r,hr=>by
  have hx:=Rw.len (h x (by simp));have:=E0u (R:=R) (fun y hy=>h y (List.mem_cons_of_mem _ hy)) (i:=i) (r:=r) (by simpa using hr);rw[List.flatMap_cons,List.drop_append,List.drop_eq_nil_of_le (by omega),hx];have e:(i+1)*33-33=i*33:=by omega
  rw[e,List.nil_append,this]
def Es (w:World) (B:Nat) (v:Value) (L:List En):Prop:=∃R,Eg w B R L∧∃A c,v=.slice A L.length c∧L.length≤c∧c≤maxLen∧Rd w 0 B A (R.flatMap Rw.cells)
section
variable {w w' : World} {B B' : Nat} {v : Value} {L : List En}
theorem Es.nil (w:World) (B:Nat):Es w B (.slice none 0 0) []:=⟨[],trivial,none,0,rfl,Nat.le_refl _,by decide,.inl rfl⟩
theorem Es.below (h:Es w B v L) (hb:Below B w w'):Es w' B v L:=by
 obtain⟨R,h1,A,c,h2,h3,h4,h5⟩:=h;exact ⟨R,h1.below hb,A,c,h2,h3,h4,h5.below hb⟩
theorem Es.more (h:Es w B v L) (hB:B≤B'):Es w B' v L:=by
 obtain⟨R,h1,A,c,h2,h3,h4,h5⟩:=h;exact ⟨R,h1.more hB,A,c,h2,h3,h4,h5.more hB⟩
theorem Es.up (h:Es w w.heap.size v L) (hb:Below w.heap.size w w'):Es w' w'.heap.size v L:=(h.below hb).more hb.size
theorem Es.form (h:Es w B v L):∃A c,v=.slice A L.length c∧L.length≤c∧c≤9223372036854775807:=by
 obtain⟨R,_,A,c,h1,h2,h3,_⟩:=h;exact ⟨A,c,h1,h2,by unfold maxLen at h3;exact h3⟩
theorem Es.at_ {A:Option Addr} {n c:Nat} (h:Es w B (.slice A n c) L) {i:Nat} {q:En} (hq:L[i]?=some q):∃g o r,A=some ⟨g,o,none⟩∧g<B∧A3k w B r q∧J1 w ⟨g,o+i*33,none⟩ 33=some r.cells:=by
 obtain⟨R,h1,A',c',h2,h3,h4,h5⟩:=h;injection h2 with h2;subst h2;obtain⟨r,hr,hi⟩:=h1.at_ hq;have hl:=D1q h1.ids;have aD:i<R.length:=(List.getElem?_eq_some_iff.1 hr).1;rcases h5 with h5 | ⟨g,o,h6,h7,h8,h9⟩
 ·rw[h5]at hl;simp at hl;omega
 ·have aB:=E0u h1.ids hr;have aA:=Rw.len (h1.ids r (List.mem_of_getElem? hr));refine ⟨g,o,r,h6,h8,hi,Ek.2 ⟨aA,fun j u hj=>?_⟩⟩;have aC:j<33:=by have:=(List.getElem?_eq_some_iff.1 hj).1;rw[aA]at this;exact this
  rw[Nat.add_assoc];refine h9 _ _ ?_;rw[←hj,←aB];simp only[List.getElem?_take,List.getElem?_drop,if_pos aC]
end
end
theorem Rw.loadid {w:World} {g:Nat} {t:TypeId} {r:Rw} (K:Bk w g t r.cells) (h:r.id.length=32):J1 w ⟨g,0,none⟩ 32=some (c8 r.id):=by
 rw[K.rowMid 0 32 (by rw[Rw.len h];decide)];simp[Rw.cells,h]
theorem Rw.loads {w:World} {g:Nat} {t:TypeId} {r:Rw} (K:Bk w g t r.cells) (h:r.id.length=32):w.cell? ⟨g,32,none⟩=some (.slice r.s.a r.s.n r.s.c):=by
 refine K.at_ ?_;simp[Rw.cells,h,Sv.v]
theorem Rw.can {w:World} {g:Nat} {t:TypeId} {r:Rw} (K:Bk w g t r.cells) (h:r.id.length=32):T5 w ⟨g,0,none⟩ 33=true:=K.can (by rw[Rw.len h];omega)
theorem Rw.put {w:World} {g:Nat} {t:TypeId} {r s:Rw} (K:Bk w g t r.cells) (h:r.id.length=32) (h':s.id.length=32):Bk (D8 w ⟨g,0,none⟩ s.cells) g t s.cells:=K.puts (by rw[Rw.len h,Rw.len h'])
theorem Re:rwz.id.length=32:=by simp[rwz]
theorem B4k:∀ {L:List En} {id:List UInt8} {i:Nat} {q:En},L[i]?=some q→lookE L id=lookE (L.drop i) id→q.1≠id→lookE L id=lookE (L.drop (i+1)) id:=by
 intro L id i q hq h aA;rw[h];have e:L.drop i=q::L.drop (i+1):=by
  have hi:=(List.getElem?_eq_some_iff.1 hq);rw[List.drop_eq_getElem_cons hi.1,hi.2]
 rw[e];show (if q.1=id then q.2 else lookE (L.drop (i+1)) id)=_;rw[if_neg aA]
theorem A4a {L:List En} {id:List UInt8} {i:Nat} {q:En} (hq:L[i]?=some q) (h:lookE L id=lookE (L.drop i) id) (he:q.1=id):lookE L id=q.2:=by
 rw[h];have e:L.drop i=q::L.drop (i+1):=by
  have hi:=(List.getElem?_eq_some_iff.1 hq);rw[List.drop_eq_getElem_cons hi.1,hi.2]
 rw[e];show (if q.1=id then q.2 else lookE (L.drop (i+1)) id)=_;rw[if_pos he]
theorem A4b (e:Int) (ev:Value) (L:List En) (id:List UInt8) (hid:id.length=32) (w:World) (hE:Es w w.heap.size ev L) :
 Calls Tryz.prog 13 #[.agg #[.int .i64 e,ev],A8 id] w fun x w'=>∃r,x=.returned r∧KS w' r (lookE L id)∧Below w.heap.size w w':=by
 obtain⟨A,c,rfl,aG,aI⟩:=hE.form;have HE:=Lib.hid hE;obtain⟨n,hn⟩:=F9 (L.length);have HN:=Lib.hid hn;rw[←hn]at HE aG ⊢;clear hE hn;obtain⟨W0,aD⟩:=F9 ((w.alloc (Obj.cells #[.int .i64 e,.slice A n c] 37)).alloc (Obj.cells (c8 id).toArray 23));have hL:W0=M9 w [(37,[.int .i64 e,.slice A n c]),(23,c8 id)]:=aD;have B0:=Ki hL;have kd:=Ko hL rfl;have ki:=Ig 1 hL rfl;clear hL;have d1:=kd.at_ (i:=1) (u:=.slice A n c) rfl;rw[aD]at d1;go_enter Tryz.func13,Tryz.ntmps13;go_wp2_with fail;rw[←aD];clear aD d1 kd;go_loopw [10] (fun x wr=>∃i:Nat,i≤n∧x=.int .i64 (i:Int)∧lookE L id=lookE (L.drop i) id∧Bk wr (w.heap.size+1) 23 (c8 id)∧Below w.heap.size w wr) (fun x _=>n-(intOf x).toNat)
 case atStart=>exact ⟨0,by omega,rfl,rfl,ki,B0⟩
 case round=>
  clear ki B0;obtain⟨i,hi,rfl,hl,ki,Br⟩:=hrel;by_cases hlt:i<n
  ·have hd:decide ((i:Int)<(n:Int))=true:=decide_eq_true (by omega);have aJ:=decide_eq_true hlt;obtain⟨q,hq⟩:∃q,L[i]?=some q:=⟨_,List.getElem?_eq_getElem (by rw[←HN.out];exact hlt)⟩;obtain⟨g,o,r,rfl,hg,hr,aB⟩:=HE.out.at_ hq;have aA:r.id.length=32:=by rw[hr.1];exact hr.2.1
   have aK:=Rw.len aA;have aL:=(Q4 (a:=⟨g,o+i*33,none⟩) Br hg).trans aB;have aC:=Lib.hid hr;have HQ:=Lib.hid hq;have aE:=Lib.hid hl;obtain⟨W,hW⟩:=F9 (D8 (wr.alloc (Obj.cells rwz.cells.toArray 44)) ⟨wr.heap.size,0,none⟩ r.cells);have k0:Bk (wr.alloc (Obj.cells rwz.cells.toArray 44)) wr.heap.size 44 rwz.cells:=Bk.new wr _ _;have aH:=Rw.can k0 Re;have kW:Bk W wr.heap.size 44 r.cells:=by rw[hW];exact Rw.put k0 Re aA
   have bW:Below wr.heap.size wr W:=by rw[hW];exact C5 (Aw _ _) (Nat.le_refl _) _
   have aF:=ki.bl bW;have f1:=Rw.loadid kW aA;have f2:=Rw.loads kW aA;have f3:=Bk.row8 (n:=32) aF hid;have BW:=K9 Br bW;rw[hW]at f1 f2 f3;clear hr aB hq hl k0 ki;by_cases he:r.id=id
   ·have hb:(r.id==id)=true:=by simpa using he
    go_wp2_with fail;rw[←hW];go_ret;refine ⟨_,rfl,.inr ⟨?_,?_⟩,BW⟩
    ·rw[A4a HQ.out aE.out (by rw[←aC.out.1];exact he)];exact (aC.out.2.2.2.below BW).more BW.size
    ·rw[A4a HQ.out aE.out (by rw[←aC.out.1];exact he)];exact aC.out.2.2.1
   ·have hb:(r.id==id)=false:=by simpa using he
    go_wp2_with fail;rw[←hW];go_roundw;case rel=>exact ⟨i+1,by omega,by go_num,B4k HQ.out aE.out (by rw[←aC.out.1];exact he),aF,BW⟩
    case measure=>simp[intOf];omega
  ·obtain rfl:i=n:=by omega
   have hd:decide ((i:Int)<(i:Int))=false:=decide_eq_false (by omega);have hz:lookE L id=[]:=by rw[hl,List.drop_eq_nil_of_le (by rw[←HN.out];exact Nat.le_refl _)];rfl
   have HZ:=Lib.hid hz;clear hl hz;go_wp2_with fail;go_ret;exact ⟨_,rfl,.inl ⟨rfl,HZ.out⟩,Br⟩
theorem Fm.form2 {w:World} {base:Nat} {v:Value} {l:List Pr} (h:Fm w base v l):∃A c,v=.slice A l.length c∧l.length≤c∧c≤9223372036854775807:=Cj h.2
theorem A7w {L:List En} {i:Nat} {q:En} (hq:L[i]?=some q):pairsE (L.take (i+1))=pairsE (L.take i)++[(q.1,Dk q.2)]:=by
 have e1:L.take (i+1)=L.take i++[q]:=by rw[List.take_add_one,hq];rfl
 rw[e1];simp[pairsE]
theorem B3j (e:Int) (ev:Value) (L:List En) (w:World) (hE:Es w w.heap.size ev L) (hLn:L.length≤1000000) (hks:∀q∈L,q.2.length≤1000000) :
 Calls Tryz.prog 15 #[.agg #[.int .i64 e,ev]] w fun x w'=>∃v,x=.returned v∧Fm w' w.heap.size v (pairsE L)∧Below w.heap.size w w':=by
 obtain⟨A,c,rfl,aQ,aY⟩:=hE.form;have HE:=Lib.hid hE;obtain⟨n,hn⟩:=F9 (L.length);have HN:=Lib.hid hn;rw[←hn]at HE aQ hLn ⊢;clear hE hn;obtain⟨W0,aC⟩:=F9 (w.alloc (Obj.cells #[.int .i64 e,.slice A n c] 37));have B0:=BA' aC;have kd:Bk W0 w.heap.size 37 [.int .i64 e,.slice A n c]:=by rw[aC];exact Bk.new w _ [_,_]
 have d1:=kd.at_ (i:=1) (u:=.slice A n c) rfl;rw[aC]at d1;have z0:w.heap.size+1≤W0.heap.size:=by rw[aC];simp
 go_enter Tryz.func15,Tryz.ntmps15;go_wp2_with fail;rw[←aC];clear aC d1 kd;have O0:Fm W0 w.heap.size (.slice none 0 0) (pairsE (L.take 0)):=⟨fun p hp=>(by cases hp),World.ownsRow_nil _ _ _ _⟩;go_loopw [3,9] (fun v x wr=>∃i:Nat,i≤n∧x=.int .i64 (i:Int)∧Fm wr w.heap.size v (pairsE (L.take i))∧Below w.heap.size w wr∧w.heap.size+1≤wr.heap.size) (fun v x _=>n-(intOf x).toNat)
 case atStart=>exact ⟨0,by omega,rfl,O0,B0,z0⟩
 case round=>
  clear O0 B0 z0;obtain⟨i,hi,rfl,O,Br,zr⟩:=hrel;obtain⟨A',c',rfl,_,_⟩:=O.form2;have aF:(pairsE (L.take i)).length=i:=by rw[Eu,List.length_take,←HN.out];omega
  rw[aF]at O;by_cases hlt:i<n
  ·have hd:decide ((i:Int)<(n:Int))=true:=decide_eq_true (by omega);have aZ:=decide_eq_true hlt;obtain⟨q,hq⟩:∃q,L[i]?=some q:=⟨_,List.getElem?_eq_getElem (by rw[←HN.out];exact hlt)⟩;obtain⟨g,o,r,rfl,hg,hr,aD⟩:=HE.out.at_ hq;have aA:r.id.length=32:=by rw[hr.1];exact hr.2.1
   have bA:=Rw.len aA;have aR:=(Q4 (a:=⟨g,o+i*33,none⟩) Br hg).trans aD;have aS:=hks q (List.mem_of_getElem? hq);have aM:=Lib.hid hr;have HQ:=Lib.hid (A7w hq);obtain⟨W,hW⟩:=F9 (D8 (wr.alloc (Obj.cells rwz.cells.toArray 44)) ⟨wr.heap.size,0,none⟩ r.cells);have k0:Bk (wr.alloc (Obj.cells rwz.cells.toArray 44)) wr.heap.size 44 rwz.cells:=Bk.new wr _ _;have aG:=Rw.can k0 Re;have kW:Bk W wr.heap.size 44 r.cells:=by rw[hW];exact Rw.put k0 Re aA
   have bW:Below wr.heap.size wr W:=by rw[hW];exact C5 (Aw _ _) (Nat.le_refl _) _
   have BW:=K9 Br bW;have OW:=O.below bW (Nat.le_refl _);have zW:=Nat.le_trans zr bW.size;have aT:(Value.slice A' i c').ownBlock≠some wr.heap.size:=fun h=>by have:=(O.2.lt _ h).2;omega
   clear hr aD hq k0 O;go_wp2_with fail;rw[←hW];clear hW aG aR;generalize wr.heap.size=ge at *;have S0:=Fx W;have k1:=kW.drew;have O1:=OW.drewN 1;have O1:Fm W.drew w.heap.size (.slice A' i c') (pairsE (L.take i)):=O1;have B1:=K9 BW S0;refine Fa (fun W=>Bk W ge 44 r.cells) ?_;refine Df (A:=?bB) [0,1,2,3,4] k1 (fun W hW=>?aU) ?bC;case aU=>
    have f1:=Rw.loadid hW aA;have f2:=Rw.loads hW aA;exact Ei
   have aN:=(aM.out.2.2.2.below B1).more B1.size;have aV:=Lib.hid aN;clear aN;refine U7 5 fun Q' hQ'=>?_;dsimp only[F0];have aE:=Lib.hid hQ';clear hQ';go_wp2_with fail;refine (A6e _ q.2 W.drew aV.out aS).mono ?_;rintro x w2 ⟨rfl,b2⟩;have k2:=k1.bl b2;have O2:=O1.below b2 (Nat.le_refl _);have B2:=K9 B1 b2;have z2:=Nat.le_trans zW (Nat.le_trans S0.size b2.size);have aO:=Gu q.2;have aW:Jb (r.id,Dk q.2):=⟨aA,aO⟩;go_wp2_with fail;refine aE.out _ _ k2 ?_;clear aE;refine U7 6 fun Q' hQ'=>?_;dsimp only[F0];go_wp2_with fail;refine hQ' _ _ k2 ?_;clear hQ';refine U7 7 fun Q' hQ'=>?_;dsimp only[F0];have bD:(pb (r.id,Dk q.2)).length=64:=by simp[pb,aA,aO]
   go_wp2_with fail;refine hQ' _ _ (k2.alloc _) ?_;clear hQ';refine U7 8 fun Q' hQ'=>?_;dsimp only[F0];have aE:=Lib.hid hQ';clear hQ';go_wp2_with (at_builtin;refine C8w rfl _ _ rfl rfl O2 (r.id,Dk q.2) aW _ rfl rfl rfl (by omega) (by omega) ?_;intro A3 c3 w3 aH aI aJ aK aP aL);have k3:=k2.grown aP (fun h=>aT h.symm);have B3:=B2.trans aK;rw[aF,aM.out.1,←HQ.out]at aJ;have aX:=Lib.hid aJ;have z3:=Nat.le_trans z2 aK.size;clear aJ aK aP aL O2 aH aI;refine aE.out _ _ k3 ?_;clear aE;refine U7 9 fun Q' hQ'=>?_;dsimp only[F0];go_wp2_with fail;refine hQ' _ _ k3 ?_;clear hQ';refine Ef ?_;go_wp2_with fail;go_roundw;case rel=>exact ⟨i+1,by omega,by go_num,aX.out,B3,z3⟩
   case measure=>simp[intOf];omega
  ·obtain rfl:i=n:=by omega
   have hd:decide ((i:Int)<(i:Int))=false:=decide_eq_false (by omega);have aB:L.take i=L:=List.take_of_length_le (by rw[←HN.out];exact Nat.le_refl _);rw[aB]at O;have HO:=Lib.hid O;clear O aB;rw[aF];go_wp2_with fail;go_ret;exact ⟨_,rfl,HO.out,Br⟩
end Go.Proofs.YtlegpkdighoflaaGreat
