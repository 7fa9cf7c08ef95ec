/- A part of the proof of DirAnswers. -/
import Derived.Test.YtlegpkdighoflaaGreatPai
set_option linter.unusedVariables false
set_option linter.unusedSimpArgs false
set_option maxRecDepth 100000
set_option maxHeartbeats 40000000
namespace Go.Proofs.YtlegpkdighoflaaGreat
open Go Go.RowKit Sh
def Kn (f:Nat→UInt8) (n i:Nat):List UInt8:=(List.range n).map fun j=>if j<i then f j else 0
@[simp, go_sem] theorem Jn (f : Nat → UInt8) (n i : Nat) : (Kn f n i).length = n := by simp [Kn]
theorem A5g {f:Nat→UInt8} {n i:Nat} (hi:i<n) {x:UInt8} (hx:x=f i):(Kn f n i).set i x=Kn f n (i+1):=by
 subst hx;apply List.ext_getElem?;intro j;unfold Kn;rw[List.getElem?_set];by_cases h:i=j
 ·subst h;rw[if_pos rfl,if_pos (by simpa using hi),List.getElem?_map,List.getElem?_range hi];simp
 ·rw[if_neg h,List.getElem?_map,List.getElem?_map];by_cases hj:j<n
  ·rw[List.getElem?_range hj];simp only[Option.map_some];have:(j<i+1)↔(j<i):=by omega
   simp[this]
  ·rw[List.getElem?_eq_none (by simpa using hj)];rfl
theorem Xh {f:Nat→UInt8} {n:Nat}:Kn f n 0=z8 n:=by
 apply List.ext_getElem?;intro j;unfold Kn z8;rw[List.getElem?_map,List.getElem?_replicate];by_cases hj:j<n
 ·rw[List.getElem?_range hj,if_pos hj];rfl
 ·rw[List.getElem?_eq_none (by simpa using hj),if_neg hj];rfl
def A1o (ws:List UInt64) (j:Nat):UInt8:=(E9 ws (j / 8) >>> UInt64.ofNat (8*(j % 8))).toUInt8
def Sp (ws:List UInt64) (n:Nat):List UInt8:=Kn (A1o ws) n n
@[simp, go_sem] theorem Qq (ws : List UInt64) (n : Nat) : (Sp ws n).length = n := Jn _ _ _
def hq (b:List UInt64):Nat→UInt64
 | 0=>(E9 b 0+19) >>> (51:UInt64)
 | i+1=>(E9 b (i+1)+hq b i) >>> (51:UInt64)
def hs (b:List UInt64):Nat→List UInt64
 | 0=>b.set 0 (E9 b 0+19*hq b 4)
 | i+1=>((hs b i).set (i+1) (E9 (hs b i) (i+1)+E9 (hs b i) i >>> (51:UInt64))).set i (E9 (hs b i) i &&& (2251799813685247:UInt64))
theorem A3t {b:List UInt64} (hb:b.length=5):∀i,(hs b i).length=5
 | 0=>by simp[hs,hb]
 | i+1=>by simp[hs,A3t hb i]
def B9a (b:List UInt64):List UInt64:=(hs b 4).set 4 (E9 (hs b 4) 4 &&& (2251799813685247:UInt64))
def Fz (c:List UInt64):List UInt64:=[E9 c 0 ||| E9 c 1 <<< (51:UInt64),E9 c 1 >>> (13:UInt64) ||| E9 c 2 <<< (38:UInt64),E9 c 2 >>> (26:UInt64) ||| E9 c 3 <<< (25:UInt64),E9 c 3 >>> (39:UInt64) ||| E9 c 4 <<< (12:UInt64)]
@[simp, go_sem] theorem C6o (c : List UInt64) : (Fz c).length = 4 := rfl
def Q5 (a:List UInt64):List UInt8:=Sp (Fz (B9a (Gh (Gh a)))) 32
@[simp, go_sem] theorem Ay (a : List UInt64) : (Q5 a).length = 32 := Qq _ _
theorem Fb (a:List UInt64) (ha:a.length=5) (w:World):Calls Tryz.prog 103 #[H9 a] w fun e w'=>e=.returned (A8 (Q5 a))∧Below w.heap.size w w':=by
 obtain⟨W0,aH⟩:=F9 ((w.alloc (Obj.cells (C9 a).toArray 138)).alloc (Obj.cells (c8 (z8 32)).toArray 23));have hL:W0=M9 w [(138,C9 a),(23,c8 (z8 32))]:=aH;have B0:=Ki hL;have A0:=Ko hL rfl;have R0:=Ig 1 hL rfl;have z0:=Za 2 hL rfl;clear hL;have ra:=A0.row64 ha;rw[aH]at ra;go_enter Tryz.func103,Tryz.ntmps103;go_wp2_with fail;rw[←aH];clear aH ra;refine (Jv a ha W0).mono ?_;rintro e w1 ⟨rfl,b1⟩;go_wp2_with fail;refine (Jv (Gh a) rfl w1).mono ?_;rintro e w2 ⟨rfl,b2⟩;have aF:=K9 b1 b2;have A2:=A0.bl aF;have R2:=R0.bl aF;have B2:=K9 B0 aF;have z2:=Nat.le_trans z0 aF.size;obtain⟨b,hb⟩:=F9 (Gh (Gh a));have aK:b.length=5:=by rw[hb];rfl
 have HB:Hid (Q5 a=Sp (Fz (B9a b)) 32):=Lib.hid (by rw[hb];rfl);rw[←hb];clear hb A0 R0 B0 b1 b2 aF z0;have aG:T5 w2 ⟨w.heap.size,0,none⟩ 5=true:=A2.can (by simp[ha]);obtain⟨W3,aC⟩:=F9 (D8 w2 ⟨w.heap.size,0,none⟩ (C9 b));have A3:Bk W3 w.heap.size 138 (C9 b):=by rw[aC];exact A2.puts (by simp[ha,aK])
 have R3:Bk W3 (w.heap.size+1) 23 (c8 (z8 32)):=by rw[aC];exact R2.putFar (by simp) _
 have B3:Below w.heap.size w W3:=by rw[aC];exact C5 B2 (Nat.le_refl _) _
 have z3:w.heap.size+2≤W3.heap.size:=by rw[aC];have:=(C5 (Below.refl w.heap.size w2) (a:=⟨w.heap.size,0,none⟩) (Nat.le_refl _) (C9 b)).size;omega
 have k0:=A3.at_ (J6 (l:=b) (i:=0) (by omega));rw[aC]at k0;clear A2 R2 B2 z2;go_wp2_with fail;rw[←aC];clear aC k0 aG;go_loop [4,3] (fun t q=>∃i:Nat,i<5∧t=.int .i64 ((i:Int)+1)∧q=.int .u64 (J4 (hq b i))) (fun t _=>5-(intOf t).toNat)
 case atStart=>exact ⟨0,by omega,rfl,rfl⟩
 case round=>
  obtain⟨i,hi,rfl,rfl⟩:=hrel;by_cases hlt:i+1<5
  ·have k0:=A3.at_ (J6 (l:=b) (i:=i+1) (by omega));have e1:(i:Int)+1<5:=by omega
   go_wp2_with fail;go_round;case rel=>exact ⟨i+1,hlt,by go_num,rfl⟩
   case measure=>simp[intOf];omega
  ·obtain rfl:i=4:=by omega
   have k0:=A3.at_ (J6 (l:=b) (i:=0) (by omega));have f0:=A3.frozen 0;obtain⟨W4,aD⟩:=F9 (W3.setCell ⟨w.heap.size,0,none⟩ (.int .u64 (J4 (E9 b 0+19*hq b 4))));have A4:Bk W4 w.heap.size 138 (C9 (hs b 0)):=by have:=A3.set_ 0 (.int .u64 (J4 (E9 b 0+19*hq b 4)));rw[Af]at this;rw[aD];exact this
   have R4:Bk W4 (w.heap.size+1) 23 (c8 (z8 32)):=by rw[aD];exact R3.far (by simp) _
   have B4:Below w.heap.size w W4:=by rw[aD];exact B3.setCell (by simp) _
   have z4:w.heap.size+2≤W4.heap.size:=by rw[aD];simpa [World.setCell] using z3
   have e5:(((4:Nat):Int)+1)=5:=rfl;rw[e5];clear A3 R3 B3 z3 e5;go_wp2_with fail;rw[←aD];clear aD k0 f0;go_loopw [36] (fun t wr=>∃i:Nat,i≤4∧t=.int .i64 (i:Int)∧Bk wr w.heap.size 138 (C9 (hs b i))∧Bk wr (w.heap.size+1) 23 (c8 (z8 32))∧Below w.heap.size w wr∧w.heap.size+2≤wr.heap.size) (fun t _=>4-(intOf t).toNat)
   case atStart=>exact ⟨0,by omega,rfl,A4,R4,B4,z4⟩
   case round=>
    clear A4 R4 B4 z4;obtain⟨i,hi,rfl,A,R,B,z⟩:=hrel;have hl:=A3t aK i;by_cases hlt:i<4
    ·have k0:=A.at_ (J6 (l:=hs b i) (i:=i+1) (by omega));have k1:=A.at_ (J6 (l:=hs b i) (i:=i) (by omega));have f0:=A.frozen (i+1);have A5:=A.set_ (i+1) (.int .u64 (J4 (E9 (hs b i) (i+1)+E9 (hs b i) i >>> (51:UInt64))));have R5:=R.far (p:=⟨w.heap.size,i+1,none⟩) (by simp) (.int .u64 (J4 (E9 (hs b i) (i+1)+E9 (hs b i) i >>> (51:UInt64))));have k5:=A5.at_ (i:=i) (u:=.int .u64 (J4 (E9 (hs b i) i))) (by rw[List.getElem?_set_ne (by omega)];exact J6 (by omega));have f5:=A5.frozen i;have A6:=A5.set_ i (.int .u64 (J4 (E9 (hs b i) i &&& (2251799813685247:UInt64))));rw[Af,Af]at A6;have R6:=R5.far (p:=⟨w.heap.size,i,none⟩) (by simp) (.int .u64 (J4 (E9 (hs b i) i &&& (2251799813685247:UInt64))));have e1:(i:Int)+1<5:=by omega
     clear A R A5 R5;go_wp2_with fail;refine Y7 13 (by kernel_rfl) (by kernel_rfl) ?_;simp only[List.take_succ_cons,List.take_zero,List.drop_succ_cons,List.drop_zero];repeat (go_big_quiet_step (fail))
     refine wpQuiet_nil ?_;rintro w6 ⟨aI,rfl⟩;have k6:((wr.drewN aI).setCell ⟨w.heap.size,i+1,none⟩ (.int .u64 (J4 (E9 (hs b i) (i+1)+E9 (hs b i) i >>> (51:UInt64))))).cell? ⟨w.heap.size,i,none⟩=some (.int .u64 (J4 (E9 (hs b i) i))):=k5;have f6:((wr.drewN aI).setCell ⟨w.heap.size,i+1,none⟩ (.int .u64 (J4 (E9 (hs b i) (i+1)+E9 (hs b i) i >>> (51:UInt64))))).frozen? ⟨w.heap.size,i,none⟩=false:=f5;clear k5 f5;go_wp2_with fail;go_roundw;case rel=>exact ⟨i+1,by omega,by go_num,A6,R6,((N7 B aI).setCell (by simp) _).setCell (by simp) _,by simpa [World.setCell] using z⟩
     case measure=>simp[intOf];omega
    ·obtain rfl:i=4:=by omega
     have k0:=A.at_ (J6 (l:=hs b 4) (i:=4) (by omega));have f0:=A.frozen 4;have e5:((4:Nat):Int)=4:=rfl;rw[e5];obtain⟨W5,aB⟩:=F9 (wr.setCell ⟨w.heap.size,4,none⟩ (.int .u64 (J4 (E9 (hs b 4) 4 &&& (2251799813685247:UInt64)))));have A5:Bk W5 w.heap.size 138 (C9 (B9a b)):=by have:=A.set_ 4 (.int .u64 (J4 (E9 (hs b 4) 4 &&& (2251799813685247:UInt64))));rw[Af]at this;rw[aB];exact this
     have R5:Bk W5 (w.heap.size+1) 23 (c8 (z8 32)):=by rw[aB];exact R.far (by simp) _
     have B5:Below w.heap.size w W5:=by rw[aB];exact B.setCell (by simp) _
     have z5:w.heap.size+2≤W5.heap.size:=by rw[aB];simpa [World.setCell] using z
     have aN:(B9a b).length=5:=by simp[B9a,hl]
     obtain⟨cc,aJ⟩:=F9 (B9a b);rw[←aJ]at A5 aN;have HC:Hid (Q5 a=Sp (Fz cc) 32):=Lib.hid (by rw[HB.out,aJ]);have c0:=A5.at_ (J6 (l:=cc) (i:=0) (by omega));have c1:=A5.at_ (J6 (l:=cc) (i:=1) (by omega));have c2:=A5.at_ (J6 (l:=cc) (i:=2) (by omega));have c3:=A5.at_ (J6 (l:=cc) (i:=3) (by omega));have c4:=A5.at_ (J6 (l:=cc) (i:=4) (by omega));obtain⟨W6,aE⟩:=F9 ((D8 (W5.alloc (Obj.cells (C9 (J2 4)).toArray 182)) ⟨W5.heap.size,0,none⟩ (C9 (Fz cc))).alloc (Obj.cells (c8 (z8 32)).toArray 23));have D6:Bk W6 W5.heap.size 182 (C9 (Fz cc)):=by rw[aE];exact (Bk.fresh64 W5 _ (by simp)).alloc _
     have b6:Below W5.heap.size W5 W6:=by rw[aE];exact (C5 (Aw _ _) (Nat.le_refl _) _).alloc (by simp) _
     have O6:Bk W6 (W5.heap.size+1) 23 (c8 (z8 32)):=by rw[aE];simpa using Bk.new (D8 (W5.alloc (Obj.cells (C9 (J2 4)).toArray 182)) ⟨W5.heap.size,0,none⟩ (C9 (Fz cc))) 23 (c8 (z8 32))
     have aA:=Bu W5 182 (J2 4) 4 _ (by simp) rfl;have R6:=R5.bl b6;have B6:=K9 B5 b6;have aL:W5.heap.size=wr.heap.size:=by rw[aB];simp[World.setCell]
     rw[aL]at D6 O6 aA aE;obtain⟨p,hp⟩:=F9 (wr.heap.size);have zp:w.heap.size+2≤p:=by rw[hp];exact z
     rw[aB]at c0 c1 c2 c3 c4 aA;clear A R B z A5 R5 B5 z5 b6 aJ aL;go_wp2_with fail;rw[show [E9 cc 0 ||| E9 cc 1 <<< (51:UInt64),E9 cc 1 >>> (13:UInt64) ||| E9 cc 2 <<< (38:UInt64),E9 cc 2 >>> (26:UInt64) ||| E9 cc 3 <<< (25:UInt64),E9 cc 3 >>> (39:UInt64) ||| E9 cc 4 <<< (12:UInt64)]=Fz cc from rfl];rw[←aB,←aE];rw[←hp]at D6 O6 ⊢;clear aB aE hp c0 c1 c2 c3 c4 aA k0 f0 e5;rw[←Xh (f:=A1o (Fz cc))]at O6;go_loopw [102] (fun t wr=>∃i:Nat,i≤32∧t=.int .i64 (i:Int)∧Bk wr p 182 (C9 (Fz cc))∧Bk wr (p+1) 23 (c8 (Kn (A1o (Fz cc)) 32 i))∧Bk wr (w.heap.size+1) 23 (c8 (z8 32))∧Below w.heap.size w wr) (fun t _=>32-(intOf t).toNat)
     case atStart=>exact ⟨0,by omega,rfl,D6,O6,R6,B6⟩
     case round=>
      clear D6 O6 R6 B6;obtain⟨i,hi,rfl,D,O,R,B⟩:=hrel;by_cases hlt:i<32
      ·have aP:(i:Int) / 8=((i / 8:Nat):Int):=by omega
       have aQ:(i:Int) % 8=((i % 8:Nat):Int):=by omega
       have hx:A1o (Fz cc) i=(E9 (Fz cc) (i / 8) >>> UInt64.ofNat (8*(i % 8))).toUInt8:=rfl;have d0:=D.at_ (J6 (l:=Fz cc) (i:=i / 8) (by simp;omega));have o0:=O.at_ (Eb (l:=Kn (A1o (Fz cc)) 32 i) (i:=i) (by simpa using hlt));have f0:=O.frozen i;have aR:i / 8<4:=by omega
       have aS:i % 8<8:=by omega
       have HX:=Lib.hid hx;have O3:=O.set_ i (.int .u8 (n8 (E9 (Fz cc) (i / 8) >>> UInt64.ofNat (8*(i % 8))).toUInt8));rw[Fp,A5g (f:=A1o (Fz cc)) hlt HX.out.symm]at O3;clear hx;generalize i / 8=qq at *;generalize i % 8=rr at *;obtain⟨ss,aM⟩:=F9 (8*rr);have h8:8*(rr:Int)=(ss:Int):=by omega
       have aO:ss<64:=by omega
       rw[←aM]at O3;clear HX aM;go_wp2_with fail;go_roundw;case rel=>exact ⟨i+1,by omega,by go_num,D.far (by simp) _,O3,R.far (by simp;omega) _,B.setCell (by simp;omega) _⟩
       case measure=>simp[intOf];omega
      ·obtain rfl:i=32:=by omega
       have hO:Bk wr (p+1) 23 (c8 (Sp (Fz cc) 32)):=O;rw[←HC.out]at hO;have ro:=hO.row8 (n:=32) (by simp);have aG:=Gy 32 R (by simp);have e5:((32:Nat):Int)=32:=rfl;rw[e5];clear e5 O hO D;go_wp2_with fail;refine bodyPost_ret (E5 rfl _ _ _ _ _ _ rfl (R.puts (vs:=c8 (Q5 a)) (by simp)) Tryz.underlying23 rfl (by simp[P6])) rfl ⟨rfl,C5 B (by simp) _⟩
def A1z (a:List UInt64):Bool:=g8 (Q5 a) 0 &&& 1==1
theorem A2s (a:List UInt64) (ha:a.length=5) (w:World):Calls Tryz.prog 104 #[H9 a] w fun e w'=>e=.returned (.bool (A1z a))∧Below w.heap.size w w':=by
 obtain⟨W0,aA⟩:=F9 (w.alloc (Obj.cells (C9 a).toArray 138));have B0:=BA' aA;have A0:=KN' aA;have ra:=A0.row64 ha;rw[aA]at ra;have hl:(Q5 a).length=32:=by simp
 have hb:(n8 (g8 (Q5 a) 0 &&& 1)==1)=A1z a:=Ox (x:=g8 (Q5 a) 0 &&& 1) (y:=1);go_enter Tryz.func104,Tryz.ntmps104;go_wp2_with fail;rw[←aA];clear aA ra;refine (Fb a ha W0).mono ?_;rintro e w1 ⟨rfl,b1⟩;go_wp2_with fail;go_ret;exact ⟨rfl,E3 B0 b1 B0.size⟩
def wl (b:List UInt8) (n:Nat):Nat→List UInt64
 | 0=>J2 n
 | i+1=>(wl b n i).set (i / 8) (E9 (wl b n i) (i / 8) ||| (g8 b i).toUInt64 <<< UInt64.ofNat (8*(i % 8)))
@[simp] theorem B7s (b : List UInt8) (n : Nat) : ∀ i, (wl b n i).length = n
 | 0=>by simp[wl]
 | i+1=>by simp[wl,B7s b n i]
def Ro (ws:List UInt64):List UInt64:=[E9 ws 0 &&& (2251799813685247:UInt64),(E9 ws 0 >>> (51:UInt64) ||| E9 ws 1 <<< (13:UInt64)) &&& (2251799813685247:UInt64),(E9 ws 1 >>> (38:UInt64) ||| E9 ws 2 <<< (26:UInt64)) &&& (2251799813685247:UInt64),(E9 ws 2 >>> (25:UInt64) ||| E9 ws 3 <<< (39:UInt64)) &&& (2251799813685247:UInt64),E9 ws 3 >>> (12:UInt64) &&& (2251799813685247:UInt64)]
@[simp, go_sem] theorem D2c (ws : List UInt64) : (Ro ws).length = 5 := rfl
def Mp (b:List UInt8):Bool:=!((E9 (wl b 4 32) 3 >>> (63:UInt64) != 0)||(Q5 (Ro (wl b 4 32)) != b))
def C6 (b:List UInt8):List UInt64:=if Mp b then Ro (wl b 4 32) else J2 5
theorem H6 (b:List UInt8):(C6 b).length=5:=by unfold C6;split<;>simp
def Fu:List UInt64:=[1718705420411056,234908883556509,2233514472574048,2117202627021982,765476049583133]
@[simp, go_sem] theorem C0j : Fu.length = 5 := rfl
theorem Vu (w:World):Calls Tryz.prog 152 #[] w fun e w'=>e=.returned (H9 Fu)∧Below w.heap.size w w':=by
 obtain⟨W0,aA⟩:∃z,z=w.alloc (Obj.cells (C9 (J2 5)).toArray 138):=⟨_,rfl⟩;have B0:Below w.heap.size w W0:=by rw[aA];exact (Below.refl _ _).alloc (Nat.le_refl _) _
 have R0:Bk W0 w.heap.size 138 (C9 (J2 5)):=by rw[aA];exact Bk.new w _ _
 have aB:T5 W0 ⟨w.heap.size,0,none⟩ 5=true:=R0.can (by simp);rw[aA]at aB;have e0:Cg (.int .u64 1718705420411056)=some 1718705420411056:=Fe 1718705420411056;have e1:Cg (.int .u64 234908883556509)=some 234908883556509:=Fe 234908883556509;have e2:Cg (.int .u64 2233514472574048)=some 2233514472574048:=Fe 2233514472574048;have e3:Cg (.int .u64 2117202627021982)=some 2117202627021982:=Fe 2117202627021982;have e4:Cg (.int .u64 765476049583133)=some 765476049583133:=Fe 765476049583133;have aC:∀(W:World) (raw:Result Next),Oe W raw (.int .u64 1718705420411056) (.int .u64 234908883556509) (.int .u64 2233514472574048) (.int .u64 2117202627021982) (.int .u64 765476049583133)=.ok (.value (H9 Fu)) W:=fun W raw=>by
  unfold Oe;rw[e0,e1,e2,e3,e4];rfl
 clear e0 e1 e2 e3 e4;have hm:Fu.length=5:=rfl;go_enter Tryz.func152,Tryz.ntmps152;go_wp2_with fail;rw[←aA];refine bodyPost_ret (E5 rfl _ _ _ _ _ _ rfl (R0.puts (vs:=C9 Fu) (by simp)) Q9 rfl (by simp[Z6])) rfl ⟨rfl,C5 B0 (Nat.le_refl _) _⟩
theorem A8e (b:List UInt8) (hb:b.length=32) (w:World):Calls Tryz.prog 125 #[A8 b] w fun e w'=>e=.returned (.tuple #[H9 (C6 b),.bool (Mp b)])∧Below w.heap.size w w':=by
 obtain⟨W0,aA⟩:=F9 (((w.alloc (Obj.cells (c8 b).toArray 23)).alloc (Obj.cells (C9 (J2 5)).toArray 138)).alloc (Obj.cells (C9 (J2 4)).toArray 182));have B0:Below w.heap.size w W0:=by rw[aA];exact ((Aw _ _).alloc (by simp) _).alloc (by simp;try omega) _
 have K0:Bk W0 w.heap.size 23 (c8 b):=by rw[aA];exact ((Bk.new w _ _).alloc _).alloc _
 have R0:Bk W0 (w.heap.size+1) 138 (C9 (J2 5)):=by rw[aA];refine Bk.alloc ?_ _;simpa using Bk.new (w.alloc (Obj.cells (c8 b).toArray 23)) 138 (C9 (J2 5))
 have D0:Bk W0 (w.heap.size+2) 182 (C9 (J2 4)):=by rw[aA];simpa using Bk.new ((w.alloc (Obj.cells (c8 b).toArray 23)).alloc (Obj.cells (C9 (J2 5)).toArray 138)) 182 (C9 (J2 4))
 have z0:w.heap.size+3≤W0.heap.size:=by rw[aA];simp
 have rk:=K0.row8 hb;rw[aA]at rk;go_enter Tryz.func125,Tryz.ntmps125;go_wp2_with fail;rw[←aA];clear aA rk;go_loopw [9] (fun t wr=>∃i:Nat,i≤32∧t=.int .i64 (i:Int)∧Bk wr w.heap.size 23 (c8 b)∧Bk wr (w.heap.size+2) 182 (C9 (wl b 4 i))∧Bk wr (w.heap.size+1) 138 (C9 (J2 5))∧Below w.heap.size w wr∧w.heap.size+3≤wr.heap.size) (fun t _=>32-(intOf t).toNat)
 case atStart=>exact ⟨0,by omega,rfl,K0,D0,R0,B0,z0⟩
 case round=>
  clear K0 D0 R0 B0 z0;obtain⟨i,hi,rfl,K,D,R,B,z⟩:=hrel;by_cases hlt:i<32
  ·have aP:(i:Int) / 8=((i / 8:Nat):Int):=by omega
   have aQ:(i:Int) % 8=((i % 8:Nat):Int):=by omega
   have hx:wl b 4 (i+1)=(wl b 4 i).set (i / 8) (E9 (wl b 4 i) (i / 8) ||| (g8 b i).toUInt64 <<< UInt64.ofNat (8*(i % 8))):=rfl;have d0:=D.at_ (J6 (l:=wl b 4 i) (i:=i / 8) (by simp;omega));have f0:=D.frozen (i / 8);have aR:i / 8<4:=by omega
   have aS:i % 8<8:=by omega
   have D3:=D.set_ (i / 8) (.int .u64 (J4 (E9 (wl b 4 i) (i / 8) ||| (g8 b i).toUInt64 <<< UInt64.ofNat (8*(i % 8)))));rw[Af,←hx]at D3;have HX:=Lib.hid hx;clear hx;generalize i / 8=qq at *;generalize i % 8=rr at *;obtain⟨ss,aF⟩:=F9 (8*rr);have h8:8*(rr:Int)=(ss:Int):=by omega
   have aJ:ss<64:=by omega
   rw[←aF]at D3;clear HX aF;go_wp2_with fail;go_roundw;case rel=>exact ⟨i+1,by omega,by go_num,K.far (by show w.heap.size≠w.heap.size+2;omega) _,D3,R.far (by simp) _,B.setCell (by show w.heap.size≤w.heap.size+2;omega) _,by simpa [World.setCell] using z⟩
   case measure=>simp[intOf];omega
  ·obtain rfl:i=32:=by omega
   have e5:((32:Nat):Int)=32:=rfl;rw[e5];clear e5;have d0:=D.at_ (J6 (l:=wl b 4 32) (i:=0) (by simp));have d1:=D.at_ (J6 (l:=wl b 4 32) (i:=1) (by simp));have d2:=D.at_ (J6 (l:=wl b 4 32) (i:=2) (by simp));have d3:=D.at_ (J6 (l:=wl b 4 32) (i:=3) (by simp));have HD:Hid (Mp b = !((E9 (wl b 4 32) 3 >>> (63:UInt64) != 0)||(Q5 (Ro (wl b 4 32)) != b))):=Lib.hid rfl;have HL:Hid (C6 b=if Mp b then Ro (wl b 4 32) else J2 5):=Lib.hid rfl;have aG:(wl b 4 32).length=4:=by simp
   generalize wl b 4 32=ws at *;have aB:=Bu wr 138 (J2 5) 5 _ (by simp) rfl;obtain⟨W6,aD⟩:=F9 (D8 (wr.alloc (Obj.cells (C9 (J2 5)).toArray 138)) ⟨wr.heap.size,0,none⟩ (C9 (Ro ws)));have E6:Bk W6 wr.heap.size 138 (C9 (Ro ws)):=by rw[aD];exact Bk.fresh64 wr _ (by simp)
   have b6:Below wr.heap.size wr W6:=by rw[aD];exact C5 (Aw _ _) (Nat.le_refl _) _
   have R6:=R.bl b6;have K6:=K.bl b6;have D6:=D.bl b6;have B6:=K9 B b6;obtain⟨p,hp⟩:=F9 (wr.heap.size);have zp:w.heap.size+3≤p:=by rw[hp];exact z
   clear K D R B z;go_wp2_with fail;rw[show [E9 ws 0 &&& (2251799813685247:UInt64),(E9 ws 0 >>> (51:UInt64) ||| E9 ws 1 <<< (13:UInt64)) &&& (2251799813685247:UInt64),(E9 ws 1 >>> (38:UInt64) ||| E9 ws 2 <<< (26:UInt64)) &&& (2251799813685247:UInt64),(E9 ws 2 >>> (25:UInt64) ||| E9 ws 3 <<< (39:UInt64)) &&& (2251799813685247:UInt64),E9 ws 3 >>> (12:UInt64) &&& (2251799813685247:UInt64)]=Ro ws from rfl];rw[←aD];rw[←hp]at E6 ⊢;clear aD hp aB d0 d1 d2 d3 b6;have lW:(Ro ws).length=5:=rfl;by_cases ht:E9 ws 3 >>> (63:UInt64)=0
   ·have aK:(J4 (E9 ws 3 >>> (63:UInt64)) != 0)=false:=by rw[ht];rfl
    have HT:=Lib.hid ht;clear ht;have S0:=Fx W6;have aT:(Q5 (Ro ws)).length=32:=by simp
    refine Fa (fun W=>Below W6.heap.size W6 W) ?_;refine Df (A:=?aU) [0,1,2,3,4,5,7] S0 (fun W hW=>?aL) ?aM;case aL=>
     have d3:=(D6.bl hW).at_ (J6 (l:=ws) (i:=3) (by rw[aG];omega));have e3:=(E6.bl hW).row64 lW;have k3:=(K6.bl hW).row8 hb;simp only[Dh,List.getElem?_cons_zero,List.getElem?_cons_succ];repeat (go_big_quiet_step (fail))
     refine wpQuiet_nil ?_;rfl
    case aM=>
     refine U7 6 fun Q' hQ'=>?_;dsimp only[F0];go_wp2_with fail;refine (Fb (Ro ws) lW W6.drew).mono ?_;rintro e w7 ⟨rfl,b7⟩;have S7:=S0.trans b7;have R7:=R6.bl S7;have E7:=(E6.bl S7).row64 lW;have B7:=K9 B6 S7;go_wp2_with fail;refine hQ' _ _ S7 ?_;clear hQ';refine Df (A:=?aV) [8,9] S7 (fun W hW=>?aN) ?aO;case aN=>
      simp only[List.append_eq,AC',Dh,Ul];repeat (go_big_quiet_step (fail))
      refine wpQuiet_nil ?_;rfl
     case aO=>
      refine Ef ?_;have aC:=Gy 5 R7 (by simp);obtain⟨cc,aE⟩:=F9 ((Q5 (Ro ws)==b));rw[←aE];have aH:=Lib.hid aE;clear aE;cases cc;case true=>
       have he:Q5 (Ro ws)=b:=by simpa using aH.out.symm
       have e1:Mp b=true:=by rw[HD.out,HT.out];simp[he]
       have e2:C6 b=Ro ws:=by rw[HL.out,if_pos e1]
       have E1:=Lib.hid e1;have E2:=Lib.hid e2;clear e1 e2 he;go_wp2_with fail;refine bodyPost_ret (v:=.tuple #[H9 (Ro ws),.bool true]) ?_ rfl ⟨by rw[E1.out,E2.out],C5 B7 (by simp) _⟩;refine N9 rfl ?_ ?_
       ·exact M7.row (R7.puts (vs:=C9 (Ro ws)) (by simp)) rfl _ Q9 rfl (by simp[Z6])
       ·exact M7.tmp rfl
      case false=>
       have he:¬ Q5 (Ro ws)=b:=by simpa using aH.out.symm
       have e1:Mp b=false:=by rw[HD.out,HT.out];simp[he]
       have e2:C6 b=J2 5:=by rw[HL.out,if_neg (by rw[e1];decide)]
       have E1:=Lib.hid e1;have E2:=Lib.hid e2;clear e1 e2 he;go_wp2_with fail;refine bodyPost_ret (v:=.tuple #[H9 (J2 5),.bool false]) ?_ rfl ⟨by rw[E1.out,E2.out],C5 B7 (by simp) _⟩;refine N9 rfl ?_ ?_
       ·exact M7.row (R7.puts (vs:=C9 (J2 5)) (by simp)) rfl _ Q9 rfl (by simp[Z6])
       ·exact M7.tmp rfl
   ·have aK:(J4 (E9 ws 3 >>> (63:UInt64)) != 0)=true:=by rw[show (0:Int)=J4 0 from rfl,D0k];simpa using ht
    have e1:Mp b=false:=by rw[HD.out];simp[ht]
    clear ht;have e2:C6 b=J2 5:=by rw[HL.out,if_neg (by rw[e1];decide)]
    have E1:=Lib.hid e1;have E2:=Lib.hid e2;have d3:=D6.at_ (J6 (l:=ws) (i:=3) (by rw[aG];omega));have aC:=Gy 5 R6 (by simp);clear e1 e2;go_quiet (fail);have aI:T5 (W6.drewN nq) ⟨w.heap.size+1,0,none⟩ 5=true:=aC;go_wp2_with fail;refine bodyPost_ret (v:=.tuple #[H9 (J2 5),.bool false]) ?_ rfl ⟨by rw[E1.out,E2.out],C5 (N7 B6 nq) (by simp) _⟩;refine N9 rfl ?_ ?_
    ·exact M7.row ((R6.drewN nq).puts (vs:=C9 (J2 5)) (by simp)) rfl _ Q9 rfl (by simp[Z6])
    ·exact M7.tmp rfl
section
section
variable (w : World) (ρ : Operand → Value) (dst : Option Tmp) (ty : TypeId) (pos : String) (after : Array Edge) (guard : Option (Nat × Bool))
@[go_sem ↓ high] theorem E2i (x ix : Operand) :
 (execOp ρ { dst,op:=.index 182 x ix,type:=ty,pos,after,guard }).run Tryz.prog w=A0i 4 w (Q0 Tryz.prog ρ { dst,op:=.index 182 x ix,type:=ty,pos,after,guard } w) (ρ x) (ρ ix):=
 Ou w ρ dst ty pos after guard 182 _ 4 x ix Tryz.underlying182 (by kernel_rfl) (by kernel_rfl)
end
def Nn:List UInt64:=[6346243789798364141,1503914060200516822,0,1152921504606846976]
@[simp, go_sem] theorem A9r : Nn.length = 4 := rfl
attribute [irreducible] Nn
theorem B8c (w:World):Calls Tryz.prog 150 #[] w fun e w'=>e=.returned (H9 Nn)∧Below w.heap.size w w':=by
 obtain⟨W0,aA⟩:∃z,z=w.alloc (Obj.cells (C9 (J2 4)).toArray 182):=⟨_,rfl⟩;have B0:Below w.heap.size w W0:=by rw[aA];exact (Below.refl _ _).alloc (Nat.le_refl _) _
 have R0:Bk W0 w.heap.size 182 (C9 (J2 4)):=by rw[aA];exact Bk.new w _ _
 have aB:T5 W0 ⟨w.heap.size,0,none⟩ 4=true:=R0.can (by simp);rw[aA]at aB;have e0:Cg (.int .u64 6346243789798364141)=some 6346243789798364141:=Fe 6346243789798364141;have e1:Cg (.int .u64 1503914060200516822)=some 1503914060200516822:=Fe 1503914060200516822;have e2:Cg (.int .u64 0)=some 0:=Fe 0;have e3:Cg (.int .u64 1152921504606846976)=some 1152921504606846976:=Fe 1152921504606846976;have aC:∀(W:World) (raw:Result Next),Nu W raw (.int .u64 6346243789798364141) (.int .u64 1503914060200516822) (.int .u64 0) (.int .u64 1152921504606846976)=.ok (.value (H9 Nn)) W:=fun W raw=>by
  unfold Nu Nn;rw[e0,e1,e2,e3]
 clear e0 e1 e2 e3;have hm:Nn.length=4:=A9r;go_enter Tryz.func150,Tryz.ntmps150;go_wp2_with fail;rw[←aA];refine bodyPost_ret (E5 rfl _ _ _ _ _ _ rfl (R0.puts (vs:=C9 Nn) (by simp)) Tryz.underlying182 rfl (by simp[Vj])) rfl ⟨rfl,C5 B0 (Nat.le_refl _) _⟩
def B0j (w l:List UInt64):Nat→UInt64
 | 0=>0
 | i+1=>B8h (E9 w i) (E9 l i) (B0j w l i)
def C0b (w l:List UInt64) (j:Nat):UInt64:=B8m (E9 w j) (E9 l j) (B0j w l j)
def D2l (w l:List UInt64):List UInt64:=Et (C0b w l) (fun _=>0) 4 4
@[simp, go_sem] theorem D0e (w l : List UInt64) : (D2l w l).length = 4 := Qv _ _ _ _
theorem D0d (w l:List UInt64):∀i,(B0j w l i).toNat≤1
 | 0=>by show (0:UInt64).toNat≤1;decide
 | i+1=>C9t _ _ _
def Bs (w:List UInt64):List UInt64:=if B0j w Nn 4=1 then w else D2l w Nn
theorem Gl {w:List UInt64} (hw:w.length=4):(Bs w).length=4:=by unfold Bs;split<;>simp[hw]
theorem Qd (x:List UInt64) (hx:x.length=4) (w:World):Calls Tryz.prog 137 #[H9 x] w fun e w'=>e=.returned (H9 (Bs x))∧Below w.heap.size w w':=by
 obtain⟨W0,aB⟩:=F9 (((w.alloc (Obj.cells (C9 x).toArray 182)).alloc (Obj.cells (C9 (J2 4)).toArray 182)).alloc (Obj.cells (C9 (J2 4)).toArray 182));have hL:W0=M9 w [(182,C9 x),(182,C9 (J2 4)),(182,C9 (J2 4))]:=aB;have B0:=Ki hL;have A0:=Ko hL rfl;have R0:=Ig 1 hL rfl;have D0:=Ig 2 hL rfl;clear hL;go_enter Tryz.func137,Tryz.ntmps137;go_wp2_with fail;rw[←aB];clear aB;refine (B8c W0).mono ?_;rintro e w1 ⟨rfl,b1⟩;have A1:=A0.bl b1;have R1:=R0.bl b1;have D1:=D0.bl b1;have B1:=K9 B0 b1;clear A0 R0 D0 B0 b1;go_wp2_with fail;rw[←A0g (f:=C0b x Nn)]at D1;go_loopw [8,4] (fun t q wr=>∃i:Nat,i≤4∧t=.int .i64 (i:Int)∧q=.int .u64 (J4 (B0j x Nn i))∧Bk wr w.heap.size 182 (C9 x)∧Bk wr (w.heap.size+1) 182 (C9 (J2 4))∧Bk wr (w.heap.size+2) 182 (C9 (Et (C0b x Nn) (fun _=>0) 4 i))∧Below w.heap.size w wr) (fun t _ _=>4-(intOf t).toNat)
 case atStart=>exact ⟨0,by omega,rfl,rfl,A1,R1,D1,B1⟩
 case round=>
  clear A1 R1 D1 B1;obtain⟨i,hi,rfl,rfl,K,R,D,B⟩:=hrel;by_cases hlt:i<4
  ·have k0:=K.at_ (J6 (l:=x) (i:=i) (by omega));have f0:=D.frozen i;have aE:=D0d x Nn i;have D3:=D.set_ i (.int .u64 (J4 (B8m (E9 x i) (E9 Nn i) (B0j x Nn i))));rw[Af,Js (f:=C0b x Nn) (g:=fun _=>0) (x:=B8m (E9 x i) (E9 Nn i) (B0j x Nn i)) hlt rfl]at D3;have d0:=D.at_ (J6 (l:=Et (C0b x Nn) (fun _=>0) 4 i) (i:=i) (by simpa using hlt));clear D;go_wp2_with fail;go_roundw;case rel=>exact ⟨i+1,by omega,by go_num,rfl,K.far (by show w.heap.size≠w.heap.size+2;omega) _,R.far (by simp) _,D3,B.setCell (by show w.heap.size≤w.heap.size+2;omega) _⟩
   case measure=>simp[intOf];omega
  ·obtain rfl:i=4:=by omega
   have e5:((4:Nat):Int)=4:=rfl;rw[e5];clear e5;have rk:=K.row64 (n:=4) hx;have rd:=D.row64 (n:=4) (by simp);have rc:=Gy 4 R (by simp);obtain⟨dd,aA⟩:=F9 (Et (C0b x Nn) (fun _=>0) 4 4);have aD:dd.length=4:=by rw[aA];simp
   obtain⟨bb,aC⟩:=F9 (B0j x Nn 4);have he:Bs x=if bb=1 then x else dd:=by rw[aC,aA];rfl
   rw[←aA]at rd D;rw[←aC];clear aA aC;have h1:(J4 bb==1)=true→Bs x=x:=fun h=>by
    rw[he,if_pos];have e1:J4 1=1:=rfl;exact A7g (by rw[e1];exact eq_of_beq h)
   have h2:(J4 bb==1)=false→Bs x=dd:=fun h=>by
    rw[he,if_neg];intro e;rw[e]at h;exact absurd h (by decide)
   clear he;go_wp2_with fail
   ·have hb:(J4 bb==1)=true:=by first | assumption | simpa using ‹_›
    refine bodyPost_ret (E5 rfl _ _ _ _ _ _ rfl (R.puts (vs:=C9 x) (by simp[hx])) Tryz.underlying182 rfl (by simp[Vj,hx])) rfl ⟨by rw[h1 hb];rfl,C5 B (by simp) _⟩
   ·have hb:(J4 bb==1)=false:=by first | assumption | simpa using ‹_›
    refine bodyPost_ret (E5 rfl _ _ _ _ _ _ rfl (R.puts (vs:=C9 dd) (by simp[aD])) Tryz.underlying182 rfl (by simp[Vj,aD])) rfl ⟨by rw[h2 hb];rfl,C5 B (by simp) _⟩
end
def I7 (a:List UInt64):List UInt8:=Sp a 32
@[simp, go_sem] theorem Z8 (a : List UInt64) : (I7 a).length = 32 := Qq _ _
theorem Ru (a:List UInt64) (ha:a.length=4) (w:World):Calls Tryz.prog 107 #[H9 a] w fun e w'=>e=.returned (A8 (I7 a))∧Below w.heap.size w w':=by
 obtain⟨W0,aA⟩:=F9 (((w.alloc (Obj.cells (C9 a).toArray 184)).alloc (Obj.cells (c8 (z8 32)).toArray 23)).alloc (Obj.cells (c8 (z8 32)).toArray 23));have hL:W0=M9 w [(184,C9 a),(23,c8 (z8 32)),(23,c8 (z8 32))]:=aA;have B0:=Ki hL;have D0:=Ko hL rfl;have R0:=Ig 1 hL rfl;have O0:=Ig 2 hL rfl;clear hL;go_enter Tryz.func107,Tryz.ntmps107;go_wp2_with fail;rw[←aA];clear aA;rw[←Xh (f:=A1o a)]at O0;go_loopw [5] (fun t wr=>∃i:Nat,i≤32∧t=.int .i64 (i:Int)∧Bk wr w.heap.size 184 (C9 a)∧Bk wr (w.heap.size+2) 23 (c8 (Kn (A1o a) 32 i))∧Bk wr (w.heap.size+1) 23 (c8 (z8 32))∧Below w.heap.size w wr) (fun t _=>32-(intOf t).toNat)
 case atStart=>exact ⟨0,by omega,rfl,D0,O0,R0,B0⟩
 case round=>
  clear D0 O0 R0 B0;obtain⟨i,hi,rfl,D,O,R,B⟩:=hrel;by_cases hlt:i<32
  ·have aE:(i:Int) / 8=((i / 8:Nat):Int):=by omega
   have aF:(i:Int) % 8=((i % 8:Nat):Int):=by omega
   have hx:A1o a i=(E9 a (i / 8) >>> UInt64.ofNat (8*(i % 8))).toUInt8:=rfl;have d0:=D.at_ (J6 (l:=a) (i:=i / 8) (by omega));have o0:=O.at_ (Eb (l:=Kn (A1o a) 32 i) (i:=i) (by simpa using hlt));have f0:=O.frozen i;have aG:i / 8<4:=by omega
   have aH:i % 8<8:=by omega
   have HX:=Lib.hid hx;have O3:=O.set_ i (.int .u8 (n8 (E9 a (i / 8) >>> UInt64.ofNat (8*(i % 8))).toUInt8));rw[Fp,A5g (f:=A1o a) hlt HX.out.symm]at O3;clear hx;generalize i / 8=qq at *;generalize i % 8=rr at *;obtain⟨ss,aB⟩:=F9 (8*rr);have h8:8*(rr:Int)=(ss:Int):=by omega
   have aC:ss<64:=by omega
   rw[←aB]at O3;clear HX aB;go_wp2_with fail;go_roundw;case rel=>exact ⟨i+1,by omega,by go_num,D.far (by show w.heap.size≠w.heap.size+2;omega) _,O3,R.far (by show w.heap.size+1≠w.heap.size+2;omega) _,B.setCell (by show w.heap.size≤w.heap.size+2;omega) _⟩
   case measure=>simp[intOf];omega
  ·obtain rfl:i=32:=by omega
   have hO:Bk wr (w.heap.size+2) 23 (c8 (I7 a)):=O;have ro:=hO.row8 (n:=32) (by simp);have aD:=Gy 32 R (by simp);have e5:((32:Nat):Int)=32:=rfl;rw[e5];clear e5 O hO D;go_wp2_with fail;refine bodyPost_ret (E5 rfl _ _ _ _ _ _ rfl (R.puts (vs:=c8 (I7 a)) (by simp)) Tryz.underlying23 rfl (by simp[P6])) rfl ⟨rfl,C5 B (by simp) _⟩
end Go.Proofs.YtlegpkdighoflaaGreat
