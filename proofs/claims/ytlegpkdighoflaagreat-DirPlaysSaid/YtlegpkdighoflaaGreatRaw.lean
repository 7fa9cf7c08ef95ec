/- A part of the proof of DirPlays. -/
import Derived.ArgAppend
import Derived.Test.YtlegpkdighoflaaGreatRav
set_option linter.unusedVariables false
set_option linter.unusedSimpArgs false
set_option maxRecDepth 100000
set_option maxHeartbeats 40000000
namespace Go.Proofs.YtlegpkdighoflaaGreat
open Go Go.RowKit Sh
theorem A0j {P:Program} {t e:TypeId} {n:Nat} (hu:P.underlying t=some (.array n e)) (w:World) (g o k c:Nat) (hk:n≤k):(Instr.arrayAt t (.slice (some ⟨g,o,none⟩) k c)).run P w=.ok (.pointer (some ⟨g,o,none⟩)) w:=by
 have aA:¬ k<n:=by omega
 simp[Instr.arrayAt,run_underlying hu,aA]
@[go_sem] theorem E3g (w : World) (g o k c : Nat) (hk : 4 ≤ k) : (Instr.arrayAt 182 (.slice (some ⟨g, o, none⟩) k c)).run Tryz.prog w = .ok (.pointer (some ⟨g, o, none⟩)) w := A0j Tryz.underlying182 w g o k c hk
@[go_sem] theorem D9z (w : World) (g o k c : Nat) (hk : 32 ≤ k) : (Instr.arrayAt 23 (.slice (some ⟨g, o, none⟩) k c)).run Tryz.prog w = .ok (.pointer (some ⟨g, o, none⟩)) w := A0j Tryz.underlying23 w g o k c hk
def scW (b:List UInt8):List UInt64:=wl b 4 32
@[simp, go_sem] theorem Ec (b : List UInt8) : (scW b).length = 4 := by unfold scW; simp
def Tb (b:List UInt8):Bool:=Bc (scW b)==scW b
def Df (b:List UInt8):List UInt64:=if Tb b then scW b else M1 4
theorem Gg (b:List UInt8):(Df b).length=4:=by unfold Df;split<;>simp
theorem C6g {b:List UInt8} (h:Tb b=true):Df b=scW b:=if_pos h
theorem D0n {b:List UInt8} (h:Tb b=false):Df b=M1 4:=if_neg (by rw[h];decide)
theorem C8x (b:List UInt8) (hb:b.length=32) (w:World):Calls Tryz.prog 115 #[A8 b] w fun e w'=>e=.returned (.tuple #[H8 (Df b),.bool (Tb b)])∧Below w.heap.size w w':=by
 have bV:=Fx (Ec b);obtain⟨W0,bF⟩:=E9 (((w.alloc (Obj.cells (c8 b).toArray 23)).alloc (Obj.cells (C9 (M1 4)).toArray 184)));have hL:W0=O8 w [(23,(c8 b)),(184,(C9 (M1 4)))]:=bF;have B0:=Rf hL;have aN:=Um hL rfl;have aW:=Nm 1 hL rfl;have z0:=ZL' 2 hL rfl;clear hL;go_enter Tryz.func115,Tryz.ntmps115;go_wp2_with fail;rw[←bF];clear bF;refine (A8o b 32 4 w.heap.size _ hb rfl (by decide) W0 aN).mono ?_;rintro e W1 ⟨p3,rfl,aB,bR,b2⟩;clear bR;have B1:=Q5 B0 b2;have z1:=Nat.le_trans z0 b2.size;have aX:=aN.bl b2;have aO:=aW.bl b2;clear b2 B0 z0 aN aW;have aB:Bk W1 (p3) 117 (C9 (scW b)):=aB;obtain⟨V5,aU⟩:=E9 (W1.alloc (Obj.cells (C9 (M1 4)).toArray 182));have aV:W1.heap.size=W1.heap.size:=rfl;have aC:Bk V5 (W1.heap.size) 182 (C9 (M1 4)):=by rw[aU,←aV];exact Bk.new W1 _ _
 have aK:=Ed aU aO;have bN:=Uo aU B1;have aD:=Et aV aX;have aE:=Et aV aO;have aF:=Et aV aB;have aY:w.heap.size+2≤W1.heap.size:=by rw[←aV];exact Nat.le_trans z1 (Nat.le_refl _)
 clear aV;obtain⟨V6,aZ⟩:=E9 (C4 V5 ⟨W1.heap.size,0,none⟩ (C9 (scW b)));have aA:=Zx 4 aZ aC (by simp) (Ec b);have aL:=U1 aZ aK (by omega);have bO:=Iu aZ bN (by omega);have f4:=Bk.row64 (n:=4) (aB) ((Ec b));have aM:=Uh 4 aC (by simp);rw[aU]at aM;have aG:(scW b).length=4:=(Ec b);go_wp2_with fail;rw[←aU,←aZ];clear f4 aM aG;obtain⟨p7,bG⟩:=E9 (W1.heap.size);rw[←bG]at aA aD aE aF aY;try rw[←bG]
 clear aU aZ bG aX aO aB B1 z1 aK aC bN;have S8:=Kg V6;refine Jh (fun W=>Bk W (p7) 182 (C9 (scW b))) ?_;refine Fs (A:=?bX) [0,2] (aA.drew) (fun W hW=>?bS) ?bY;case bS=>
  have f0:=Bk.row64 (n:=4) (hW) ((Ec b));exact Gq
 refine N8 [zv 1 10 (H8 (Bc (scW b))),zv 3 12 (.bool (!(Bc (scW b)==scW b)))] (by kernel_rfl) (fun W hW=>(aA.drew.bl hW)) ?bA ?bB ?bC;case bA=>exact MO'
 case bB=>
  refine (Z3 ⟨?bH,(Z3 ⟨?bI,Zh⟩)⟩);case bH=>
   exact KC' fun W=>Sm (scW b) (Ec b) W
  case bI=>intro o ho us W hW hp Q' hQ';obtain rfl:=Option.some.inj ho;have bD:us 1=(H8 (Bc (scW b))):=hp 0 _ rfl (by kernel_rfl);clear hp ho;rw[C1]at hQ' ⊢;dsimp only[C7,E5,List.foldl,zv,za]at hQ' ⊢;simp only[Cy];rw[bD]at hQ' ⊢;clear bD;go_wp2_with fail;exact Ea (hQ' _ _ (Below.refl _ _) rfl nofun)
 case bC=>
 intro us W9 bP hg bJ bT;have bD:us 1=(H8 (Bc (scW b))):=hg _ (Ca 0 rfl);have bQ:us 3=(.bool (!(Bc (scW b)==scW b))):=hg _ (Ca 1 rfl);have bE:=Q5 S8 bP;refine RP' ?_;rw[bD,bQ];clear hg bJ bT bD bQ bP S8;have B9:=Q5 bO bE;have aH:=aL.bl bE;have bK:=aA.bl bE;clear bE bO aL aA;refine It ?_;cases hz:(Bc (scW b)==scW b);case false=>
  rw[Bool.not_false];have HE:=Lib.hid (D0n hz);have HB:Hid (Tb b=false):=Lib.hid hz;clear hz;obtain⟨bZ,aI⟩:=E9 (C4 W9 ⟨w.heap.size+1,0,none⟩ (C9 (M1 4)));have aP:=Zx 4 aI aH (by simp) (by simp);have bL:=Iu aI B9 (by omega);have aQ:=Uh 4 aH (by simp);have aG:(M1 4).length=4:=(show (M1 4).length=4 from by simp);go_wp2_with fail;rw[←aI];clear aQ aG;clear aI;have aR:(M1 4).length=4:=(show (M1 4).length=4 from by simp);refine bodyPost_ret (v:=.tuple #[H8 (M1 4),.bool false]) ?_ rfl ⟨?_,bL⟩
  ·refine Y7 rfl ?_ ?_
   ·exact N7.row aP rfl _ Ff rfl (by simp[Jm,aR])
   ·exact N7.tmp rfl
  ·rw[HE.out,HB.out]
 case true=>
  rw[Bool.not_true];have HE:=Lib.hid (C6g hz);have HB:Hid (Tb b=true):=Lib.hid hz;clear hz;obtain⟨cA,aJ⟩:=E9 (C4 W9 ⟨w.heap.size+1,0,none⟩ (C9 (scW b)));have aS:=Zx 4 aJ aH (by simp) (Ec b);have bM:=Iu aJ B9 (by omega);have bU:=Bk.row64 (n:=4) (bK) ((Ec b));have aT:=Uh 4 aH (by simp);have aG:(scW b).length=4:=(Ec b);go_wp2_with fail;rw[←aJ];clear bU aT aG;clear aJ;have aR:(scW b).length=4:=(Ec b);refine bodyPost_ret (v:=.tuple #[H8 (scW b),.bool true]) ?_ rfl ⟨?_,bM⟩
  ·refine Y7 rfl ?_ ?_
   ·exact N7.row aS rfl _ Ff rfl (by simp[Jm,aR])
   ·exact N7.tmp rfl
  ·rw[HE.out,HB.out]
def mT (x y t c:UInt64):UInt64:=Zk (Zk (x*y) t 0) c 0
def mC (x y t c:UInt64):UInt64:=B2t x y+A1n (x*y) t 0+A1n (Zk (x*y) t 0) c 0
def mIn (x:UInt64) (b:List UInt64) (i:Nat) (t:List UInt64):Nat→List UInt64×UInt64
 | 0=>(t,0)
 | j+1=>((mIn x b i t j).1.set (i+j) (mT x (F8 b j) (F8 (mIn x b i t j).1 (i+j)) (mIn x b i t j).2),mC x (F8 b j) (F8 (mIn x b i t j).1 (i+j)) (mIn x b i t j).2)
theorem Oq (x:UInt64) (b:List UInt64) (i:Nat) (t:List UInt64):∀j,(mIn x b i t j).1.length=t.length
 | 0=>rfl
 | j+1=>by show (List.set _ _ _).length=_;rw[List.length_set];exact Oq x b i t j
def B1a (a b:List UInt64):Nat→List UInt64
 | 0=>M1 8
 | i+1=>(mIn (F8 a i) b i (B1a a b i) 4).1.set (i+4) (mIn (F8 a i) b i (B1a a b i) 4).2
theorem Sz (a b:List UInt64):∀i,(B1a a b i).length=8
 | 0=>by show (M1 8).length=8;simp
 | i+1=>by show (List.set _ _ _).length=_;rw[List.length_set,Oq];exact Sz a b i
def Fl (a b:List UInt64):List UInt64:=Ql (B1a a b 4)
theorem B6p (a b:List UInt64):(Fl a b).length=4:=Ib _
theorem C9p (a b:List UInt64) (ha:a.length=4) (hb:b.length=4) (w:World):Calls Tryz.prog 109 #[H8 a,H8 b] w fun e w'=>e=.returned (H8 (Fl a b))∧Below w.heap.size w w':=by
 obtain⟨W0,aA⟩:=E9 ((((w.alloc (Obj.cells (C9 a).toArray 184)).alloc (Obj.cells (C9 b).toArray 184)).alloc (Obj.cells (C9 (M1 4)).toArray 184)).alloc (Obj.cells (C9 (M1 8)).toArray 155));have hL:W0=O8 w [(184,C9 a),(184,C9 b),(184,C9 (M1 4)),(155,C9 (M1 8))]:=aA;have B0:=Rf hL;have K0:=Um hL rfl;have L0:=Nm 1 hL rfl;have R0:=Nm 2 hL rfl;have D0:=Nm 3 hL rfl;have ra:=K0.row64 ha;rw[aA]at ra;clear hL;go_enter Tryz.func109,Tryz.ntmps109;go_wp2_with fail;rw[←aA];clear aA ra K0;go_loopw [16] (fun x wr=>∃i:Nat,i≤4∧x=.int .i64 (i:Int)∧Bk wr (w.heap.size+1) 184 (C9 b)∧Bk wr (w.heap.size+2) 184 (C9 (M1 4))∧Bk wr (w.heap.size+3) 155 (C9 (B1a a b i))∧Below w.heap.size w wr) (fun x _=>4-(intOf x).toNat)
 case atStart=>exact ⟨0,by omega,rfl,L0,R0,D0,B0⟩
 case round=>
  clear L0 R0 D0 B0;obtain⟨i,hi,rfl,L,R,D,B⟩:=hrel;by_cases hlt:i<4
  ·obtain⟨x,hx⟩:=E9 (F8 a i);obtain⟨t,ht⟩:=E9 (B1a a b i);have aD:t.length=8:=by rw[ht];exact Sz a b i
   have HN:Hid (B1a a b (i+1)=(mIn x b i t 4).1.set (i+4) (mIn x b i t 4).2):=Lib.hid (by rw[ht,hx];rfl);have aI:decide ((i:Int)<4)=true:=decide_eq_true (by omega);rw[←ht]at D;clear ht;have aE:=Lib.hid aD;clear aD;have D0:Bk wr (w.heap.size+3) 155 (C9 (mIn x b i t 0).1):=D;have rb:=L.row64 hb;have aF:F8 a i=x:=hx.symm;clear hx D;go_wp2_with fail;clear rb aF;go_loopw [22,8] (fun y c wr=>∃j:Nat,j≤4∧y=.int .i64 (j:Int)∧c=.int .u64 (F0 (mIn x b i t j).2)∧Bk wr (w.heap.size+1) 184 (C9 b)∧Bk wr (w.heap.size+2) 184 (C9 (M1 4))∧Bk wr (w.heap.size+3) 155 (C9 (mIn x b i t j).1)∧Below w.heap.size w wr) (fun y _ _=>4-(intOf y).toNat)
   case atStart=>exact ⟨0,by omega,rfl,rfl,L,R,D0,B⟩
   case round=>
    clear L R D0 B;obtain⟨j,hj,rfl,rfl,L,R,D,B⟩:=hrel;by_cases hlj:j<4
    ·obtain⟨u,hu⟩:=E9 ((mIn x b i t j).1);obtain⟨c,hc⟩:=E9 ((mIn x b i t j).2);obtain⟨q,hq⟩:=E9 (i+j);obtain⟨y,hy⟩:=E9 (F8 b j);obtain⟨v,hv⟩:=E9 (F8 u q);have aC:u.length=8:=by rw[hu,Oq];exact aE.out
     have HI:Hid (mIn x b i t (j+1)=(u.set q (mT x y v c),mC x y v c)):=Lib.hid (by rw[hv,hy,hu,hc,hq];rfl);rw[←hu]at D;rw[←hc];have aJ:(i:Int)+(j:Int)=(q:Int):=by omega
     have aK:q<8:=by omega
     have aL:decide ((j:Int)<4)=true:=decide_eq_true (by omega);have d0:=D.at_ (J6 (l:=u) (i:=q) (by omega));rw[←hv]at d0;have aM:F8 b j=y:=hy.symm;have f0:=D.frozen q;have D3:=D.set_ q (.int .u64 (F0 (mT x y v c)));rw[Cz]at D3;clear hu hc hq hy hv aC;go_wp2_with fail;refine (Zv x y wr).mono ?_;rintro e w2 ⟨rfl,rfl⟩;go_wp2_with fail;go_roundw;case rel=>exact ⟨j+1,by omega,by go_num,by rw[HI.out];rfl,L.far (by show w.heap.size+1≠w.heap.size+3;omega) _,R.far (by show w.heap.size+2≠w.heap.size+3;omega) _,by rw[HI.out];exact D3,B.setCell (by show w.heap.size≤w.heap.size+3;omega) _⟩
     case measure=>simp[intOf];omega
    ·obtain rfl:j=4:=by omega
     have e4:((4:Nat):Int)=4:=rfl;rw[e4];clear e4;obtain⟨u,hu⟩:=E9 ((mIn x b i t 4).1);obtain⟨c,hc⟩:=E9 ((mIn x b i t 4).2);have aC:u.length=8:=by rw[hu,Oq];exact aE.out
     have HI:Hid (B1a a b (i+1)=u.set (i+4) c):=Lib.hid (by rw[HN.out,hu,hc]);rw[←hu]at D;rw[←hc];have aN:((i:Int)+4).toNat=i+4:=by omega
     have d0:=D.at_ (J6 (l:=u) (i:=i+4) (by omega));have f0:=D.frozen (i+4);have D3:=D.set_ (i+4) (.int .u64 (F0 c));rw[Cz]at D3;clear hu hc aC;go_wp2_with fail;go_roundw;case rel=>exact ⟨i+1,by omega,by go_num,L.far (by show w.heap.size+1≠w.heap.size+3;omega) _,R.far (by show w.heap.size+2≠w.heap.size+3;omega) _,by rw[HI.out];exact D3,B.setCell (by show w.heap.size≤w.heap.size+3;omega) _⟩
     case measure=>simp[intOf];omega
  ·obtain rfl:i=4:=by omega
   have e4:((4:Nat):Int)=4:=rfl;rw[e4];clear e4;obtain⟨ws,aB⟩:=E9 (B1a a b 4);have aG:ws.length=8:=by rw[aB];exact Sz a b 4
   have HS:Hid (Fl a b=Ql ws):=Lib.hid (by rw[aB];rfl);rw[←aB]at D;clear aB;go_wp2_with fail;refine (A7f ws 8 (w.heap.size+3) _ aG (by decide) wr D).mono ?_;rintro e w2 ⟨rfl,b2⟩;have R2:=R.bl b2;have B2:=Q5 B b2;have hl:=Ib ws;have aH:=Mh 4 R2 (by simp);go_wp2_with fail;refine bodyPost_ret (C5 rfl _ _ _ _ _ _ rfl (R2.puts (vs:=C9 (Ql ws)) (by simp[hl])) Ff rfl (by simp[Jm,hl])) rfl ⟨by rw[HS.out];rfl,C0 B2 (by show w.heap.size≤w.heap.size+2;omega) _⟩
theorem E3h:(Tryz.prog.info? 45).map (fun i=>(i.zero,i.size,i.bytes))=some (some (.slice none 0 0),1,24):=by kernel_rfl
theorem J7.one_cells {w:World} {B:Nat} {vs:List Value} {ls:List (List UInt8)} (h2:vs.length=ls.length) (h3:∀(i:Nat) (x:Value) (l:List UInt8),vs[i]?=some x→ls[i]?=some l→By w 0 B x l):∀u∈vs,u.oneCell'=true:=by
 intro u hu;obtain⟨i,hi⟩:=List.getElem?_of_mem hu;have aA:=(List.getElem?_eq_some_iff.1 hi).1;obtain⟨A,c,rfl,_⟩:=(h3 i u _ hi (List.getElem?_eq_getElem (by omega))).open_;rfl
theorem J7.join {w w':World} {v:Value} {vs vs':List Value} {ls ls':List (List UInt8)} (hv:vs.length=ls.length) (hv':vs'.length=ls'.length) (hs:Sl w' 0 w'.heap.size v (vs++vs')) (hb:Below w.heap.size w w')
 (h3:∀(i:Nat) (x:Value) (l:List UInt8),vs[i]?=some x→ls[i]?=some l→By w 0 w.heap.size x l) (h3':∀(i:Nat) (x:Value) (l:List UInt8),vs'[i]?=some x→ls'[i]?=some l→By w 0 w.heap.size x l):J7 w' w'.heap.size v (ls++ls'):=by
 refine ⟨vs++vs',hs,by simp[hv,hv'],fun i x l hx hl=>?_⟩;by_cases hi:i<vs.length
 ·rw[List.getElem?_append_left hi]at hx;rw[List.getElem?_append_left (by omega)]at hl;exact ((h3 i x l hx hl).below hb).more hb.size
 ·rw[List.getElem?_append_right (by omega)]at hx;rw[List.getElem?_append_right (by omega),←hv]at hl;exact ((h3' _ x l hx hl).below hb).more hb.size
theorem A4r (g o n:Nat) (vp:Value) (ls ps:List (List UInt8)) (w:World) (ha:J7 w w.heap.size (.slice (some ⟨g,o,none⟩) n n) ls) (hp:J7 w w.heap.size vp ps) (h0:0<ps.length) (hsz:ls.length+ps.length≤1000000) :
 Calls Tryz.prog 106 #[vp,.slice (some ⟨g,o,none⟩) n n] w fun e w'=>∃v,e=.returned v∧J7 w' w'.heap.size v (ls++ps)∧Below w.heap.size w w':=by
 obtain⟨vs,⟨A,c,e1,h1,h2,aL⟩,aM,aN⟩:=ha;obtain⟨aA,⟨A',c',rfl,bA,bB,aF⟩,aC,aD⟩:=hp;injection e1 with e1 e2 e3;subst e1 e2 e3;obtain⟨i0,aO,aP,aQ,aR⟩:=info_parts E3h;have hn:aA.length≠0:=by omega
 have aG:∀j u,vs[j]?=some u→w.cell? ⟨g,o+j,none⟩=some u:=by
  rcases aL with h | ⟨g',o',e,_,_,hc⟩
  ·intro j u hj;rw[h]at hj;cases hj
  ·injection e with e;injection e with e1 e2;subst e1 e2;exact hc
 rcases aF with h | ⟨g',o',rfl,_,_,hc'⟩
 ·rw[h]at hn;exact absurd rfl hn
 have aB:=J7.one_cells aC aD;have bC:Hid _:=Lib.hid aG;have aS:Hid _:=Lib.hid hc';have aT:Hid _:=Lib.hid aN;have aH:Hid _:=Lib.hid aD;have aI:Hid _:=Lib.hid aB;have aU:=Lib.hid aO;have aV:=Lib.hid aP;have aW:=Lib.hid aQ;have aX:=Lib.hid aR;have aY:=Lib.hid aM;have aJ:=Lib.hid aC;have K1:Hid (some (⟨g,o,none⟩:Addr)=none→vs.length=0∧vs.length=0):=Lib.hid (fun h=>by cases h);have K2:Hid (vs.length=vs.length*1):=Lib.hid (by omega);have K3:Hid (∀b:Addr,some (⟨g,o,none⟩:Addr)=some b→∀j u,vs[j]?=some u→w.cell? (b.add j)=some u):=Lib.hid (fun b hb j u hj=>by injection hb with hb;subst hb;rw[U9];exact aG j u hj);have K4:Hid (aA.length=aA.length*1):=Lib.hid (by omega);have K5:Hid (∀j u,aA[j]?=some u→w.cell? ((⟨g',o',none⟩:Addr).add j)=some u):=Lib.hid (fun j u hj=>by rw[U9];exact hc' j u hj);have K6:Hid (vs.length<vs.length+aA.length):=Lib.hid (by omega);have K7:Hid (vs.length+aA.length≤maxLen):=Lib.hid (by simp only[maxLen];omega);have K8:Hid ((vs.length+aA.length)*24≤140737488355328):=Lib.hid (by omega);clear aG hc' aN aD aB aO aP aQ aR aM aC aL;go_enter Tryz.func106,Tryz.ntmps106;go_wp2_with (at_builtin;refine wpList_append_grows _ rfl _ _ 152 rfl 45 i0 _ 1 24 Tryz.underlying152 aU.out aV.out aW.out aX.out rfl (by decide) (some ⟨g,o,none⟩) vs.length vs.length vs rfl K1.out K2.out K3.out ⟨g',o',none⟩ aA.length c' aA rfl K4.out K5.out aI.out K6.out K7.out K8.out ?_;intro v' w' aK aZ)
 have aE:Below w.heap.size w w':=(Below.refl w.heap.size w).grown aZ (Nat.le_refl _) (fun k hk=>by cases hk);go_ret;exact ⟨v',rfl,J7.join aY.out aJ.out (Sl.less (Sl.of_own aK) (Nat.zero_le _)) aE aT.out aH.out,aE⟩
theorem J7.up {w w':World} {v:Value} {ls:List (List UInt8)} (h:J7 w w.heap.size v ls) (hb:Below w.heap.size w w'):J7 w' w'.heap.size v ls:=(h.below hb).more hb.size
theorem By.up {w w':World} {v:Value} {l:List UInt8} (h:By w 0 w.heap.size v l) (hb:Below w.heap.size w w'):By w' 0 w'.heap.size v l:=(h.below hb).more hb.size
theorem Bk.by {w:World} {g:Nat} {t:TypeId} {l m:List UInt8} (K:Bk w g t (c8 l)) (o n c:Nat) (hn:o+n≤l.length) (hc:n≤c) (hc2:c≤9223372036854775807) (hm:(l.drop o).take n=m):By w 0 w.heap.size (.slice (some ⟨g,o,none⟩) n c) m:=by
 have aA:m.length=n:=by rw[←hm];simp;omega
 have:=By.mk_ (w:=w) (lo:=0) (B:=w.heap.size) (A:=some ⟨g,o,none⟩) (c:=c) (l:=m) (by omega) (by unfold maxLen;exact hc2) (.inr ⟨g,o,rfl,Nat.zero_le _,K.lt,fun j u hj=>K.at_ (by
  have h1:j<m.length:=by have:=(List.getElem?_eq_some_iff.1 hj).1;simpa using this
  rw[←hj,←hm];simp only[c8,List.map_take,List.map_drop,List.getElem?_take,List.getElem?_drop];rw[if_pos (by omega)])⟩)
 rwa [aA]at this
theorem Bk.byAll {w:World} {g:Nat} {t:TypeId} {l:List UInt8} {n:Nat} (K:Bk w g t (c8 l)) (hl:l.length=n) (hn:n≤9223372036854775807):By w 0 w.heap.size (.slice (some ⟨g,0,none⟩) n n) l:=
 K.by 0 n n (by omega) (Nat.le_refl _) hn (by rw[List.drop_zero,List.take_of_length_le (by omega)])
def zs (i:Nat) (d:Tmp) (n:Nat) (ls:List (List UInt8)):Soup:=⟨i,d,fun v w=>∃g,v=.slice (some ⟨g,0,none⟩) n n∧J7 w w.heap.size v ls,false⟩
def zp (i:Nat) (d:Tmp) (ls:List (List UInt8)):Soup:=⟨i,d,fun v w=>J7 w w.heap.size v ls,false⟩
def zb (i:Nat) (d:Tmp) (l:List UInt8):Soup:=⟨i,d,fun v w=>By w 0 w.heap.size v l,false⟩
theorem zs_mono (i:Nat) (d:Tmp) (n:Nat) (ls:List (List UInt8)):(zs i d n ls).mono:=fun _ _ _ ⟨g,e,h⟩ hb=>⟨g,e,h.up hb⟩
theorem zp_mono (i:Nat) (d:Tmp) (ls:List (List UInt8)):(zp i d ls).mono:=fun _ _ _ h hb=>h.up hb
theorem zb_mono (i:Nat) (d:Tmp) (l:List UInt8):(zb i d l).mono:=fun _ _ _ h hb=>h.up hb
def A1q (l:List UInt8):List UInt64:=Vc (A0s l)
theorem A5u (l:List UInt8):(A1q l).length=4:=Gi _
theorem B9e (vp:Value) (ls:List (List UInt8)) (w:World) (hp:J7 w w.heap.size vp ls) (hsz:ls.flatten.length≤1099511627776):Calls Tryz.prog 105 #[vp] w fun e w'=>e=.returned (H8 (A1q ls.flatten))∧Below w.heap.size w w':=by
 obtain⟨W0,aA⟩:=E9 (w.alloc (Obj.cells (C9 (M1 4)).toArray 184));have B0:=BA' aA;have R0:=KN' aA;have P0:=Lib.hid (hp.up B0);clear hp;go_enter Tryz.func105,Tryz.ntmps105;go_wp2_with fail;rw[←aA];clear aA;refine (A5p vp ls W0 P0.out hsz).mono ?_;rintro e w1 ⟨rfl,b1⟩;have R1:=R0.bl b1;have B1:=Q5 B0 b1;obtain⟨h,hh⟩:=E9 (A0s ls.flatten);have hl:h.length=64:=by rw[hh];exact Xn _
 have HN:Hid (A1q ls.flatten=Vc h):=Lib.hid (by rw[hh];rfl);rw[←hh];clear hh;go_wp2_with fail;refine (A7h h hl w1).mono ?_;rintro e w2 ⟨rfl,b2⟩;have R2:=R1.bl b2;have B2:=Q5 B1 b2;have aB:=Gi h;have aC:=Mh 4 R2 (by simp);go_wp2_with fail;refine bodyPost_ret (C5 rfl _ _ _ _ _ _ rfl (R2.puts (vs:=C9 (Vc h)) (by simp[aB])) Ff rfl (by simp[Jm,aB])) rfl ⟨by rw[HN.out];rfl,C0 B2 (Nat.le_refl _) _⟩
theorem RG' {P Q : Prop} (q : Q) (h : Q → P := by
  intro q
  rw [C1]
  dsimp only [E5, List.foldl, zv, za, zs, zp, zb]
  simp only [List.set_cons_succ, List.set_cons_zero]
  exact q) : P := h q
theorem KG' {Q : World → Prop} {P : Prop} (c : ∀ W, Q W) (h : (∀ W, Q W) → P := by
  intro c o ho us W hW hp Q' hQ'
  obtain rfl := Option.some.inj ho
  clear hp ho
  rw [C1] at hQ' ⊢
  dsimp only [C7, E5, List.foldl, zv, za, zs, zp, zb] at hQ' ⊢
  simp only [List.set_cons_succ, List.set_cons_zero]
  go_wp2_with fail
  refine (c W).mono ?_
  rintro e W2 ⟨rfl, b2⟩
  go_wp2_with fail
  exact Fw (hQ' _ _ b2 rfl (fun h => by cases h)) (by kernel_rfl)) : P := h c
end Go.Proofs.YtlegpkdighoflaaGreat
