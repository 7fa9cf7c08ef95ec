/- A part of the proof of AuditTells. -/
import Derived.ArgAppend
import Derived.Test.YtmllnpokbbabhaaGreatTar
set_option linter.unusedVariables false
set_option linter.unusedSimpArgs false
set_option maxRecDepth 100000
set_option maxHeartbeats 40000000
namespace Go.Proofs.YtmllnpokbbabhaaGreat
open Go Go.RowKit Sh
section
noncomputable def B7f (p:Pn) (n:List UInt8):Nat→Pn
 | 0=>Eh (Bo p X3) 0
 | m+1=>Gq (Zn 4 (B7f p n m)) (Eh (Bo p X3) (dg n (63-m))) X3
theorem A9r {p:Pn} (hp:p.Ok) (n:List UInt8):∀m,(B7f p n m).Ok
 | 0=>(Px hp X3).at 0
 | m+1=>Di _ _ _
noncomputable def Uu (p:Pn) (n:List UInt8):Pn:=if p.row==Z1.row then A2v n else B7f p n 64
theorem Ro {p:Pn} (hp:p.Ok) (n:List UInt8):(Uu p n).Ok:=by
 unfold Uu;split
 ·exact A5c n
 ·exact A9r hp n 64
theorem B2x {p:Pn} (n:List UInt8) (h:(p.row==Z1.row)=true):Uu p n=A2v n:=if_pos h
theorem D6l {p:Pn} (n:List UInt8) (h:(p.row==Z1.row)=false):Uu p n=B7f p n 64:=if_neg (by rw[h];decide)
set_option maxRecDepth 100000
def E9s:St:=D4k 38 19 [(3,.v false [.p 1 0]),(4,.v false [.p 2 0]),(5,.v false [.p 7 0]),(6,.v false [.p 12 0]),(7,.v false [.p 16 0]),(8,.v false [.m 7 1])] [(1,40,[.m 0 32]),(2,182,List.replicate 20 (.c (.int .u64 0))),(7,180,[.m 1 5]),(12,240,[.m 2 320]),(16,182,[.m 3 5,.m 4 5,.m 5 5,.m 6 5])]
theorem B5p (p:Pn) (n:List UInt8) (hp:p.Ok) (hn:n.length=32) (w:World):Calls Tryz.prog 100 #[H7 p.row,A8 n] w fun e w'=>e=.returned (H7 (Uu p n).row)∧Below w.heap.size w w':=by
 rw[Pn.seg,Pn.seg];cases h:(p.row==Z1.row) with
 | true=>
  rw[B2x n h];exact E8 (g:=Hc) 200 (p.av hp++[Km n 32 hn]) [dP Xl Q7,D3h p Z1 hp Q7 h,dP (fun W=>by have:=C5y n hn W;rwa [Pn.seg]at this) (A5c n)] E7 Tryz.func100 (by kernel_rfl)
 | false=>
  rw[D6l n h];have oB:=Px hp X3;have lB:=Mn p X3;let R (i:Nat) (z:Int):List Av:=[Km n 32 hn,Ca X3 5 P6,Ca (Pl (Bo p X3)) 320 (by rw[Z3 oB,lB])]++((B7f p n i).av (A9r hp n i)++[Zi (.int .i64 z) rfl])
  refine B0f (g:=Hc) (ρ0:=p.av hp++[Km n 32 hn]) 200 64 E9s (fun i=>R i (63-(i:Int))) [] E7 Tryz.func100 (by kernel_rfl) ?_ (fun i hi=>?_) ?_ (by kernel_rfl)
  ·exact Go.run (g:=Hc) 200 [dP Xl Q7,D3h p Z1 hp Q7 h,dE Wq P6,dPl (B7c p X3 hp P6) oB 320 (by rw[lB]),dLd (T:=240) 12 oB (by omega)] E7 (by kernel_rfl)
  ·have hr:=A9r hp n i;have h1:=B4x n (63-i);show Go _ _ (R i (63-(i:Int))) _ _ (R (i+1) (63-((i+1:Nat):Int))) _ _;rw[show 63-((i+1:Nat):Int)=((63-i:Nat):Int)-1 by omega,show 63-(i:Int)=((63-i:Nat):Int) by omega];exact Go.run (g:=Hc.ix [(51,12,dg n (63-i)*20)]) 200 ([dGe (x:=((63-i:Nat):Int)) (y:=0) (b:=true) (by simp)]++((List.range 4).map fun j=>dP (Xh (Zn j (B7f p n i)) (Qx hr j)) (Qx hr (j+1))) ++
    [dV (Ua n hn (63-i) (by omega)) rfl,dIx (T:=240) (cs:=E4 (Pl (Bo p X3))) 51 12 (dg n (63-i)) 20 .u8 Tryz.underlying240 (by kernel_rfl) h1 (by decide) rfl (fun _ _ _=>rfl),dLx (T:=240) 51 12 (dg n (63-i)) oB (by omega) rfl (fun _ _ _=>rfl),
    dP (Qv (Zn 4 (B7f p n i)) (Eh (Bo p X3) (dg n (63-i))) X3 (Qx hr 4) (oB.at _) P6) (Di _ _ _),C6s ((63-i:Nat):Int) 1 (B2o _ (by omega) (by omega))]) E7 (by kernel_rfl)
  ·exact Go.run (g:=Hc) 200 [dGe (x:=-1) (y:=0) (b:=false) rfl] E7 (by kernel_rfl)
end
section
def Pz (c e:UInt8):List UInt8:=c::e::z8 30
attribute [simp, go_sem] Hi
@[simp, go_sem] theorem Mv (c e : UInt8) : (Pz c e).length = 32 := by simp [Pz]
theorem C3d (c e:UInt8) (w:World):(Instr.build 40 #[(0,v8 c),(1,v8 e)]).run Tryz.prog w=.ok (A8 (Pz c e)) w:=by kernel_rfl
attribute [irreducible] Pz
open Classical in
noncomputable def Ko (w:World) (raw:Result Next) (v u:Value):Result Next:=if h:∃p:UInt8×UInt8,v=v8 p.1∧u=v8 p.2 then .ok (.value (A8 (Pz h.choose.1 h.choose.2))) w else raw
theorem Ys (w:World) (raw:Result Next) (c e:UInt8):Ko w raw (v8 c) (v8 e)=.ok (.value (A8 (Pz c e))) w:=by
 have h:∃p:UInt8×UInt8,v8 c=v8 p.1∧v8 e=v8 p.2:=⟨(c,e),rfl,rfl⟩;unfold Ko;rw[dif_pos h,←C1y h.choose_spec.1,←C1y h.choose_spec.2]
@[go_sem] theorem D8c (w : World) (raw : Result Next) (c e : UInt8) : Ko w raw (.int .u8 (n8 c)) (.int .u8 (n8 e)) = .ok (.value (A8 (Pz c e))) w := Ys w raw c e
@[go_sem] theorem D7q (w : World) (raw : Result Next) (c : UInt8) : Ko w raw (.int .u8 (n8 c)) (.int .u8 77) = .ok (.value (A8 (Pz c 77))) w := Ys w raw c 77
@[go_sem ↓ high] theorem D7c (w : World) (ρ : Operand → Value) (dst : Option Tmp) (ty : TypeId) (pos : String) (after : Array Edge) (guard : Option (Nat × Bool)) (x y : Operand) :
 (execOp ρ { dst,op:=.build 40 #[(0,x),(1,y)],type:=ty,pos,after,guard }).run Tryz.prog w=Ko w (O9 Tryz.prog ρ { dst,op:=.build 40 #[(0,x),(1,y)],type:=ty,pos,after,guard } w) (ρ x) (ρ y):=by
 unfold Ko;split
 ·rename_i h
  have h1:=h.choose_spec;generalize h.choose=c at h1;refine U1 w ρ dst ty pos after guard _ _ _ ?_;simp only[List.map_toArray,List.map_cons,List.map_nil,h1.1,h1.2];exact C3d c.1 c.2 w
 ·rfl
def Xi (p:Pn):Bool:=Gs (B1n 3 p)==h1 1
set_option maxRecDepth 100000
theorem B7r (p:Pn) (hp:p.Ok) (w:World):Calls Tryz.prog 163 #[H7 p.row] w fun e w'=>e=.returned (.bool (Xi p))∧Below w.heap.size w w':=by
 rw[Pn.seg];have h3:(B1n 3 p).Ok:=Nd _ _;exact E8 (g:=Hc) 100 (p.av hp) [dP (B7d p p hp hp) (Nd _ _),dP (B7d (C6r p p) (C6r p p) (Nd _ _) (Nd _ _)) (Nd _ _),dP (B7d (B1n 2 p) (B1n 2 p) (Nd _ _) (Nd _ _)) h3,dH (Vs (B1n 3 p) h3) (Y9 _),dEq (Gs (B1n 3 p)) (h1 1) (Y9 _) (Hi _) rfl] E7 Tryz.func163 (by kernel_rfl)
end
theorem B3t {P:Program} {t e:TypeId} {n:Nat} (hu:P.underlying t=some (.array n e)) (w:World) (g o k c:Nat) (hk:n≤k):(Instr.arrayAt t (.slice (some ⟨g,o,none⟩) k c)).run P w=.ok (.pointer (some ⟨g,o,none⟩)) w:=by
 have aA:¬ k<n:=by omega
 simp[Instr.arrayAt,run_underlying hu,aA]
@[go_sem] theorem E0w (w : World) (g o k c : Nat) (hk : 4 ≤ k) : (Instr.arrayAt 245 (.slice (some ⟨g, o, none⟩) k c)).run Tryz.prog w = .ok (.pointer (some ⟨g, o, none⟩)) w := B3t Tryz.underlying245 w g o k c hk
def scW (b:List UInt8):List UInt64:=wl b 4 32
@[simp, go_sem] theorem Aj (b : List UInt8) : (scW b).length = 4 := by unfold scW; simp
def Qm (b:List UInt8):Bool:=U4 (scW b)==scW b
def Kx (b:List UInt8):List UInt64:=if Qm b then scW b else T9 4
theorem Vv (b:List UInt8):(Kx b).length=4:=by unfold Kx;split<;>simp
theorem C4d {b:List UInt8} (h:Qm b=true):Kx b=scW b:=if_pos h
theorem D1x {b:List UInt8} (h:Qm b=false):Kx b=T9 4:=if_neg (by rw[h];decide)
theorem D2g (b:List UInt8) (hb:b.length=32) (w:World):Calls Tryz.prog 164 #[A8 b] w fun e w'=>e=.returned (.tuple #[H7 (Kx b),.bool (Qm b)])∧Below w.heap.size w w':=by
 have bX:=Ct (Aj b);obtain⟨W0,bF⟩:=D9 (((w.alloc (Obj.cells (c8 b).toArray 40)).alloc (Obj.cells (E4 (T9 4)).toArray 247)));have hL:W0=Z0 w [(40,(c8 b)),(247,(E4 (T9 4)))]:=bF;have B0:=BL' hL;have aN:=KZ' hL rfl;have aW:=KL' 1 hL rfl;have z0:=ZL' 2 hL rfl;clear hL;go_enter Tryz.func164,Tryz.ntmps164;go_wp2_with fail;rw[←bF];clear bF;refine (A6e b 32 4 w.heap.size _ hb rfl (by decide) W0 aN).mono ?_;rintro e W1 ⟨p3,rfl,aB,bR,b2⟩;clear bR;have B1:=X4 B0 b2;have z1:=Nat.le_trans z0 b2.size;have aX:=aN.bl b2;have aO:=aW.bl b2;clear b2 B0 z0 aN aW;have aB:Bk W1 (p3) 99 (E4 (scW b)):=aB;obtain⟨V5,aU⟩:=D9 (W1.alloc (Obj.cells (E4 (T9 4)).toArray 245));have aV:W1.heap.size=W1.heap.size:=rfl;have aC:Bk V5 (W1.heap.size) 245 (E4 (T9 4)):=by rw[aU,←aV];exact Bk.new W1 _ _
 have aK:=KA' aU aO;have bN:=BC' aU B1;have aD:=LS' aV aX;have aE:=LS' aV aO;have aF:=LS' aV aB;have aY:w.heap.size+2≤W1.heap.size:=by rw[←aV];exact Nat.le_trans z1 (Nat.le_refl _)
 clear aV;obtain⟨V6,aZ⟩:=D9 (C2 V5 ⟨W1.heap.size,0,none⟩ (E4 (scW b)));have aA:=P4' 4 aZ aC (by simp) (Aj b);have aL:=KF' aZ aK (by omega);have bO:=BP' aZ bN (by omega);have f4:=Bk.row64 (n:=4) (aB) ((Aj b));have aM:=C4' 4 aC (by simp);rw[aU]at aM;have aG:(scW b).length=4:=(Aj b);go_wp2_with fail;rw[←aU,←aZ];clear f4 aM aG;obtain⟨p7,bG⟩:=D9 (W1.heap.size);rw[←bG]at aA aD aE aF aY;try rw[←bG]
 clear aU aZ bG aX aO aB B1 z1 aK aC bN;have S8:=Nq V6;refine Ij (fun W=>Bk W (p7) 245 (E4 (scW b))) ?_;refine Cn (A:=?bY) [0,2] (aA.drew) (fun W hW=>?bS) ?bZ;case bS=>
  have f0:=Bk.row64 (n:=4) (hW) ((Aj b));exact Fa
 refine Cf [zv 1 10 (H7 (U4 (scW b))),zv 3 12 (.bool (!(U4 (scW b)==scW b)))] (by kernel_rfl) (fun W hW=>(aA.drew.bl hW)) ?bA ?bB ?bC;case bA=>exact MO'
 case bB=>
  refine (Mp ⟨?bH,(Mp ⟨?bI,FN'⟩)⟩);case bH=>
   exact KC' fun W=>Pa (scW b) (Aj b) W
  case bI=>intro o ho us W hW hp Q' hQ';obtain rfl:=Option.some.inj ho;have bD:us 1=(H7 (U4 (scW b))):=hp 0 _ rfl (by kernel_rfl);clear hp ho;rw[D8]at hQ' ⊢;dsimp only[C6,O6,List.foldl,zv,za]at hQ' ⊢;simp only[Nv];rw[bD]at hQ' ⊢;clear bD;go_wp2_with fail;exact FE' (hQ' _ _ (Below.refl _ _) rfl nofun)
 case bC=>
 intro us W9 bP hg bJ bT;have bD:us 1=(H7 (U4 (scW b))):=hg _ (Yi 0 rfl);have bQ:us 3=(.bool (!(U4 (scW b)==scW b))):=hg _ (Yi 1 rfl);have bE:=X4 S8 bP;refine RP' ?_;rw[bD,bQ];clear hg bJ bT bD bQ bP S8;have B9:=X4 bO bE;have aH:=aL.bl bE;have bK:=aA.bl bE;clear bE bO aL aA;refine Gn ?_;cases hz:(U4 (scW b)==scW b);case false=>
  rw[Bool.not_false];have HE:=Lib.hid (D1x hz);have HB:Hid (Qm b=false):=Lib.hid hz;clear hz;obtain⟨cA,aI⟩:=D9 (C2 W9 ⟨w.heap.size+1,0,none⟩ (E4 (T9 4)));have aP:=P4' 4 aI aH (by simp) (by simp);have bL:=BP' aI B9 (by omega);have aQ:=C4' 4 aH (by simp);have aG:(T9 4).length=4:=(show (T9 4).length=4 from by simp);go_wp2_with fail;rw[←aI];clear aQ aG;clear aI;have aR:(T9 4).length=4:=(show (T9 4).length=4 from by simp);refine bodyPost_ret (v:=.tuple #[H7 (T9 4),.bool false]) ?_ rfl ⟨?_,bL⟩
  ·refine C8 rfl ?_ ?_
   ·exact C5.row aP rfl _ Dv rfl (by simp[Jm,aR])
   ·exact C5.tmp rfl
  ·rw[HE.out,HB.out]
 case true=>
  rw[Bool.not_true];have HE:=Lib.hid (C4d hz);have HB:Hid (Qm b=true):=Lib.hid hz;clear hz;obtain⟨cB,aJ⟩:=D9 (C2 W9 ⟨w.heap.size+1,0,none⟩ (E4 (scW b)));have aS:=P4' 4 aJ aH (by simp) (Aj b);have bM:=BP' aJ B9 (by omega);have bU:=Bk.row64 (n:=4) (bK) ((Aj b));have aT:=C4' 4 aH (by simp);have aG:(scW b).length=4:=(Aj b);go_wp2_with fail;rw[←aJ];clear bU aT aG;clear aJ;have aR:(scW b).length=4:=(Aj b);refine bodyPost_ret (v:=.tuple #[H7 (scW b),.bool true]) ?_ rfl ⟨?_,bM⟩
  ·refine C8 rfl ?_ ?_
   ·exact C5.row aS rfl _ Dv rfl (by simp[Jm,aR])
   ·exact C5.tmp rfl
  ·rw[HE.out,HB.out]
def mT (x y t c:UInt64):UInt64:=Yd (Yd (x*y) t 0) c 0
def mC (x y t c:UInt64):UInt64:=B2r x y+A2j (x*y) t 0+A2j (Yd (x*y) t 0) c 0
def mIn (x:UInt64) (b:List UInt64) (i:Nat) (t:List UInt64):Nat→List UInt64×UInt64
 | 0=>(t,0)
 | j+1=>((mIn x b i t j).1.set (i+j) (mT x (E0 b j) (E0 (mIn x b i t j).1 (i+j)) (mIn x b i t j).2),mC x (E0 b j) (E0 (mIn x b i t j).1 (i+j)) (mIn x b i t j).2)
theorem Ms (x:UInt64) (b:List UInt64) (i:Nat) (t:List UInt64):∀j,(mIn x b i t j).1.length=t.length
 | 0=>rfl
 | j+1=>by show (List.set _ _ _).length=_;rw[List.length_set];exact Ms x b i t j
def A8c (a b:List UInt64):Nat→List UInt64
 | 0=>T9 8
 | i+1=>(mIn (E0 a i) b i (A8c a b i) 4).1.set (i+4) (mIn (E0 a i) b i (A8c a b i) 4).2
theorem Oc (a b:List UInt64):∀i,(A8c a b i).length=8
 | 0=>by show (T9 8).length=8;simp
 | i+1=>by show (List.set _ _ _).length=_;rw[List.length_set,Ms];exact Oc a b i
def C4z (a b:List UInt64):List UInt64:=Pf (A8c a b 4)
theorem Yp (a b:List UInt64):(C4z a b).length=4:=Er _
theorem C9u (a b:List UInt64) (ha:a.length=4) (hb:b.length=4) (w:World):Calls Tryz.prog 160 #[H7 a,H7 b] w fun e w'=>e=.returned (H7 (C4z a b))∧Below w.heap.size w w':=by
 obtain⟨W0,aA⟩:=D9 ((((w.alloc (Obj.cells (E4 a).toArray 247)).alloc (Obj.cells (E4 b).toArray 247)).alloc (Obj.cells (E4 (T9 4)).toArray 247)).alloc (Obj.cells (E4 (T9 8)).toArray 195));have hL:W0=Z0 w [(247,E4 a),(247,E4 b),(247,E4 (T9 4)),(195,E4 (T9 8))]:=aA;have B0:=BL' hL;have K0:=KZ' hL rfl;have L0:=KL' 1 hL rfl;have R0:=KL' 2 hL rfl;have D0:=KL' 3 hL rfl;have ra:=K0.row64 ha;rw[aA]at ra;clear hL;go_enter Tryz.func160,Tryz.ntmps160;go_wp2_with fail;rw[←aA];clear aA ra K0;go_loopw [16] (fun x wr=>∃i:Nat,i≤4∧x=.int .i64 (i:Int)∧Bk wr (w.heap.size+1) 247 (E4 b)∧Bk wr (w.heap.size+2) 247 (E4 (T9 4))∧Bk wr (w.heap.size+3) 195 (E4 (A8c a b i))∧Below w.heap.size w wr) (fun x _=>4-(intOf x).toNat)
 case atStart=>exact ⟨0,by omega,rfl,L0,R0,D0,B0⟩
 case round=>
  clear L0 R0 D0 B0;obtain⟨i,hi,rfl,L,R,D,B⟩:=hrel;by_cases hlt:i<4
  ·obtain⟨x,hx⟩:=D9 (E0 a i);obtain⟨t,ht⟩:=D9 (A8c a b i);have aD:t.length=8:=by rw[ht];exact Oc a b i
   have HN:Hid (A8c a b (i+1)=(mIn x b i t 4).1.set (i+4) (mIn x b i t 4).2):=Lib.hid (by rw[ht,hx];rfl);have aI:decide ((i:Int)<4)=true:=decide_eq_true (by omega);rw[←ht]at D;clear ht;have aE:=Lib.hid aD;clear aD;have D0:Bk wr (w.heap.size+3) 195 (E4 (mIn x b i t 0).1):=D;have rb:=L.row64 hb;have aF:E0 a i=x:=hx.symm;clear hx D;go_wp2_with fail;clear rb aF;go_loopw [22,8] (fun y c wr=>∃j:Nat,j≤4∧y=.int .i64 (j:Int)∧c=.int .u64 (E6 (mIn x b i t j).2)∧Bk wr (w.heap.size+1) 247 (E4 b)∧Bk wr (w.heap.size+2) 247 (E4 (T9 4))∧Bk wr (w.heap.size+3) 195 (E4 (mIn x b i t j).1)∧Below w.heap.size w wr) (fun y _ _=>4-(intOf y).toNat)
   case atStart=>exact ⟨0,by omega,rfl,rfl,L,R,D0,B⟩
   case round=>
    clear L R D0 B;obtain⟨j,hj,rfl,rfl,L,R,D,B⟩:=hrel;by_cases hlj:j<4
    ·obtain⟨u,hu⟩:=D9 ((mIn x b i t j).1);obtain⟨c,hc⟩:=D9 ((mIn x b i t j).2);obtain⟨q,hq⟩:=D9 (i+j);obtain⟨y,hy⟩:=D9 (E0 b j);obtain⟨v,hv⟩:=D9 (E0 u q);have aC:u.length=8:=by rw[hu,Ms];exact aE.out
     have HI:Hid (mIn x b i t (j+1)=(u.set q (mT x y v c),mC x y v c)):=Lib.hid (by rw[hv,hy,hu,hc,hq];rfl);rw[←hu]at D;rw[←hc];have aJ:(i:Int)+(j:Int)=(q:Int):=by omega
     have aK:q<8:=by omega
     have aL:decide ((j:Int)<4)=true:=decide_eq_true (by omega);have d0:=D.at_ (Q1 (l:=u) (i:=q) (by omega));rw[←hv]at d0;have aM:E0 b j=y:=hy.symm;have f0:=D.frozen q;have D3:=D.set_ q (.int .u64 (E6 (mT x y v c)));rw[Fv]at D3;clear hu hc hq hy hv aC;go_wp2_with fail;refine (Xo x y wr).mono ?_;rintro e w2 ⟨rfl,rfl⟩;go_wp2_with fail;go_roundw;case rel=>exact ⟨j+1,by omega,by go_num,by rw[HI.out];rfl,L.far (by show w.heap.size+1≠w.heap.size+3;omega) _,R.far (by show w.heap.size+2≠w.heap.size+3;omega) _,by rw[HI.out];exact D3,B.setCell (by show w.heap.size≤w.heap.size+3;omega) _⟩
     case measure=>simp[intOf];omega
    ·obtain rfl:j=4:=by omega
     have e4:((4:Nat):Int)=4:=rfl;rw[e4];clear e4;obtain⟨u,hu⟩:=D9 ((mIn x b i t 4).1);obtain⟨c,hc⟩:=D9 ((mIn x b i t 4).2);have aC:u.length=8:=by rw[hu,Ms];exact aE.out
     have HI:Hid (A8c a b (i+1)=u.set (i+4) c):=Lib.hid (by rw[HN.out,hu,hc]);rw[←hu]at D;rw[←hc];have aN:((i:Int)+4).toNat=i+4:=by omega
     have d0:=D.at_ (Q1 (l:=u) (i:=i+4) (by omega));have f0:=D.frozen (i+4);have D3:=D.set_ (i+4) (.int .u64 (E6 c));rw[Fv]at D3;clear hu hc aC;go_wp2_with fail;go_roundw;case rel=>exact ⟨i+1,by omega,by go_num,L.far (by show w.heap.size+1≠w.heap.size+3;omega) _,R.far (by show w.heap.size+2≠w.heap.size+3;omega) _,by rw[HI.out];exact D3,B.setCell (by show w.heap.size≤w.heap.size+3;omega) _⟩
     case measure=>simp[intOf];omega
  ·obtain rfl:i=4:=by omega
   have e4:((4:Nat):Int)=4:=rfl;rw[e4];clear e4;obtain⟨ws,aB⟩:=D9 (A8c a b 4);have aG:ws.length=8:=by rw[aB];exact Oc a b 4
   have HS:Hid (C4z a b=Pf ws):=Lib.hid (by rw[aB];rfl);rw[←aB]at D;clear aB;go_wp2_with fail;refine (A7g ws 8 (w.heap.size+3) _ aG (by decide) wr D).mono ?_;rintro e w2 ⟨rfl,b2⟩;have R2:=R.bl b2;have B2:=X4 B b2;have hl:=Er ws;have aH:=Nn 4 R2 (by simp);go_wp2_with fail;refine bodyPost_ret (C7 rfl _ _ _ _ _ _ rfl (R2.puts (vs:=E4 (Pf ws)) (by simp[hl])) Dv rfl (by simp[Jm,hl])) rfl ⟨by rw[HS.out];rfl,C0 B2 (by show w.heap.size≤w.heap.size+2;omega) _⟩
theorem B7l:(Tryz.prog.info? 38).map (fun i=>(i.zero,i.size,i.bytes))=some (some (.slice none 0 0),1,24):=by kernel_rfl
theorem M6.one_cells {w:World} {B:Nat} {vs:List Value} {ls:List (List UInt8)} (h2:vs.length=ls.length) (h3:∀(i:Nat) (x:Value) (l:List UInt8),vs[i]?=some x→ls[i]?=some l→By w 0 B x l):∀u∈vs,u.oneCell'=true:=by
 intro u hu;obtain⟨i,hi⟩:=List.getElem?_of_mem hu;have aA:=(List.getElem?_eq_some_iff.1 hi).1;obtain⟨A,c,rfl,_⟩:=(h3 i u _ hi (List.getElem?_eq_getElem (by omega))).open_;rfl
theorem M6.join {w w':World} {v:Value} {vs vs':List Value} {ls ls':List (List UInt8)} (hv:vs.length=ls.length) (hv':vs'.length=ls'.length) (hs:Sl w' 0 w'.heap.size v (vs++vs')) (hb:Below w.heap.size w w')
 (h3:∀(i:Nat) (x:Value) (l:List UInt8),vs[i]?=some x→ls[i]?=some l→By w 0 w.heap.size x l) (h3':∀(i:Nat) (x:Value) (l:List UInt8),vs'[i]?=some x→ls'[i]?=some l→By w 0 w.heap.size x l):M6 w' w'.heap.size v (ls++ls'):=by
 refine ⟨vs++vs',hs,by simp[hv,hv'],fun i x l hx hl=>?_⟩;by_cases hi:i<vs.length
 ·rw[List.getElem?_append_left hi]at hx;rw[List.getElem?_append_left (by omega)]at hl;exact ((h3 i x l hx hl).below hb).more hb.size
 ·rw[List.getElem?_append_right (by omega)]at hx;rw[List.getElem?_append_right (by omega),←hv]at hl;exact ((h3' _ x l hx hl).below hb).more hb.size
theorem C9v (g o n:Nat) (vp:Value) (vs vs':List Value) (w:World) (ha:Sl w 0 w.heap.size (.slice (some ⟨g,o,none⟩) n n) vs) (hp:Sl w 0 w.heap.size vp vs') (honec:∀u∈vs',u.oneCell'=true) (h0:0<vs'.length) (hsz:vs.length+vs'.length≤1000000) :
 Calls Tryz.prog 157 #[vp,.slice (some ⟨g,o,none⟩) n n] w fun e w'=>∃v,e=.returned v∧Sl w' w.heap.size w'.heap.size v (vs++vs')∧Below w.heap.size w w':=by
 obtain⟨A,c,e1,h1,h2,aF⟩:=ha;obtain⟨A',c',rfl,aQ,aR,aA⟩:=hp;injection e1 with e1 e2 e3;subst e1 e2 e3;obtain⟨i0,aG,aH,aI,aJ⟩:=info_parts B7l;have hn:vs'.length≠0:=by omega
 have aB:∀j u,vs[j]?=some u→w.cell? ⟨g,o+j,none⟩=some u:=by
  rcases aF with h | ⟨g',o',e,_,_,hc⟩
  ·intro j u hj;rw[h]at hj;cases hj
  ·injection e with e;injection e with e1 e2;subst e1 e2;exact hc
 rcases aA with h | ⟨g',o',rfl,_,_,hc'⟩
 ·rw[h]at hn;exact absurd rfl hn
 have aS:Hid _:=Lib.hid aB;have aK:Hid _:=Lib.hid hc';have aC:Hid _:=Lib.hid honec;have aL:=Lib.hid aG;have aM:=Lib.hid aH;have aN:=Lib.hid aI;have aO:=Lib.hid aJ;have K1:Hid (some (⟨g,o,none⟩:Addr)=none→vs.length=0∧vs.length=0):=Lib.hid (fun h=>by cases h);have K2:Hid (vs.length=vs.length*1):=Lib.hid (by omega);have K3:Hid (∀b:Addr,some (⟨g,o,none⟩:Addr)=some b→∀j u,vs[j]?=some u→w.cell? (b.add j)=some u):=Lib.hid (fun b hb j u hj=>by injection hb with hb;subst hb;rw[P9];exact aB j u hj);have K4:Hid (vs'.length=vs'.length*1):=Lib.hid (by omega);have K5:Hid (∀j u,vs'[j]?=some u→w.cell? ((⟨g',o',none⟩:Addr).add j)=some u):=Lib.hid (fun j u hj=>by rw[P9];exact hc' j u hj);have K6:Hid (vs.length<vs.length+vs'.length):=Lib.hid (by omega);have K7:Hid (vs.length+vs'.length≤maxLen):=Lib.hid (by simp only[maxLen];omega);have K8:Hid ((vs.length+vs'.length)*24≤140737488355328):=Lib.hid (by omega);clear aB hc' honec aG aH aI aJ aF;go_enter Tryz.func157,Tryz.ntmps157;go_wp2_with (at_builtin;refine wpList_append_grows _ rfl _ _ 61 rfl 38 i0 _ 1 24 Tryz.underlying61 aL.out aM.out aN.out aO.out rfl (by decide) (some ⟨g,o,none⟩) vs.length vs.length vs rfl K1.out K2.out K3.out ⟨g',o',none⟩ vs'.length c' vs' rfl K4.out K5.out aC.out K6.out K7.out K8.out ?_;intro v' w' aD aP);have aE:Below w.heap.size w w':=(Below.refl w.heap.size w).grown aP (Nat.le_refl _) (fun k hk=>by cases hk);go_ret;exact ⟨v',rfl,Sl.of_own aD,aE⟩
theorem M6.up {w w':World} {v:Value} {ls:List (List UInt8)} (h:M6 w w.heap.size v ls) (hb:Below w.heap.size w w'):M6 w' w'.heap.size v ls:=(h.below hb).more hb.size
theorem By.up {w w':World} {v:Value} {l:List UInt8} (h:By w 0 w.heap.size v l) (hb:Below w.heap.size w w'):By w' 0 w'.heap.size v l:=(h.below hb).more hb.size
theorem Bk.by {w:World} {g:Nat} {t:TypeId} {l m:List UInt8} (K:Bk w g t (c8 l)) (o n c:Nat) (hn:o+n≤l.length) (hc:n≤c) (hc2:c≤9223372036854775807) (hm:(l.drop o).take n=m):By w 0 w.heap.size (.slice (some ⟨g,o,none⟩) n c) m:=by
 have aA:m.length=n:=by rw[←hm];simp;omega
 have:=By.mk_ (w:=w) (lo:=0) (B:=w.heap.size) (A:=some ⟨g,o,none⟩) (c:=c) (l:=m) (by omega) (by unfold maxLen;exact hc2) (.inr ⟨g,o,rfl,Nat.zero_le _,K.lt,fun j u hj=>K.at_ (by
  have h1:j<m.length:=by have:=(List.getElem?_eq_some_iff.1 hj).1;simpa using this
  rw[←hj,←hm];simp only[c8,List.map_take,List.map_drop,List.getElem?_take,List.getElem?_drop];rw[if_pos (by omega)])⟩)
 rwa [aA]at this
theorem Bk.byAll {w:World} {g:Nat} {t:TypeId} {l:List UInt8} {n:Nat} (K:Bk w g t (c8 l)) (hl:l.length=n) (hn:n≤9223372036854775807):By w 0 w.heap.size (.slice (some ⟨g,0,none⟩) n n) l:=
 K.by 0 n n (by omega) (Nat.le_refl _) hn (by rw[List.drop_zero,List.take_of_length_le (by omega)])
def zs (i:Nat) (d:Tmp) (n:Nat) (ls:List (List UInt8)):Soup:=⟨i,d,fun v w=>∃g,v=.slice (some ⟨g,0,none⟩) n n∧M6 w w.heap.size v ls,false⟩
def zp (i:Nat) (d:Tmp) (ls:List (List UInt8)):Soup:=⟨i,d,fun v w=>M6 w w.heap.size v ls,false⟩
def zb (i:Nat) (d:Tmp) (l:List UInt8):Soup:=⟨i,d,fun v w=>By w 0 w.heap.size v l,false⟩
theorem zs_mono (i:Nat) (d:Tmp) (n:Nat) (ls:List (List UInt8)):(zs i d n ls).mono:=fun _ _ _ ⟨g,e,h⟩ hb=>⟨g,e,h.up hb⟩
theorem zb_mono (i:Nat) (d:Tmp) (l:List UInt8):(zb i d l).mono:=fun _ _ _ h hb=>h.up hb
def A0b (l:List UInt8):List UInt64:=A1p (Yz l)
theorem A0y (l:List UInt8):(A0b l).length=4:=Hb _
theorem B9p (vp:Value) (ls:List (List UInt8)) (w:World) (hp:M6 w w.heap.size vp ls) (hsz:ls.flatten.length≤1099511627776):Calls Tryz.prog 156 #[vp] w fun e w'=>e=.returned (H7 (A0b ls.flatten))∧Below w.heap.size w w':=by
 obtain⟨W0,aA⟩:=D9 (w.alloc (Obj.cells (E4 (T9 4)).toArray 247));have B0:=BA' aA;have R0:=KN' aA;have P0:=Lib.hid (hp.up B0);clear hp;go_enter Tryz.func156,Tryz.ntmps156;go_wp2_with fail;rw[←aA];clear aA;refine (A2f vp ls W0 P0.out hsz).mono ?_;rintro e w1 ⟨rfl,b1⟩;have R1:=R0.bl b1;have B1:=X4 B0 b1;obtain⟨h,hh⟩:=D9 (Yz ls.flatten);have hl:h.length=64:=by rw[hh];exact Vg _
 have HN:Hid (A0b ls.flatten=A1p h):=Lib.hid (by rw[hh];rfl);rw[←hh];clear hh;go_wp2_with fail;refine (A4x h hl w1).mono ?_;rintro e w2 ⟨rfl,b2⟩;have R2:=R1.bl b2;have B2:=X4 B1 b2;have aB:=Hb h;have aC:=Nn 4 R2 (by simp);go_wp2_with fail;refine bodyPost_ret (C7 rfl _ _ _ _ _ _ rfl (R2.puts (vs:=E4 (A1p h)) (by simp[aB])) Dv rfl (by simp[Jm,aB])) rfl ⟨by rw[HN.out];rfl,C0 B2 (Nat.le_refl _) _⟩
theorem RG' {P Q : Prop} (q : Q) (h : Q → P := by
  intro q
  rw [D8]
  dsimp only [O6, List.foldl, zv, za, zs, zp, zb]
  simp only [List.set_cons_succ, List.set_cons_zero]
  exact q) : P := h q
theorem KG' {Q : World → Prop} {P : Prop} (c : ∀ W, Q W) (h : (∀ W, Q W) → P := by
  intro c o ho us W hW hp Q' hQ'
  obtain rfl := Option.some.inj ho
  clear hp ho
  rw [D8] at hQ' ⊢
  dsimp only [C6, O6, List.foldl, zv, za, zs, zp, zb] at hQ' ⊢
  simp only [List.set_cons_succ, List.set_cons_zero]
  go_wp2_with fail
  refine (c W).mono ?_
  rintro e W2 ⟨rfl, b2⟩
  go_wp2_with fail
  exact Gg (hQ' _ _ b2 rfl (fun h => by cases h)) (by kernel_rfl)) : P := h c
end Go.Proofs.YtmllnpokbbabhaaGreat
