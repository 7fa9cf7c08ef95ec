/- A part of the proof of DirBuilds. -/
import Derived.Test.YtlegpkdighoflaaGreatSan
set_option linter.unusedVariables false
set_option linter.unusedSimpArgs false
set_option maxRecDepth 100000
set_option maxHeartbeats 40000000
namespace Go.Proofs.YtlegpkdighoflaaGreat
open Go Go.RowKit Sh
theorem Bk.row8 {w:World} {g:Nat} {t:TypeId} {l:List UInt8} {n:Nat} (h:Bk w g t (c8 l)) (hl:l.length=n):E5 w ⟨g,0,none⟩ n=some (c8 l):=by have:=h.rows;rwa [H6,hl]at this
def Zv (a:List UInt64):List UInt64:=P6 (Fu 2 (fsq a)) a
def It (a:List UInt64):List UInt64:=P6 (Zv a) (fsq a)
def f5 (a:List UInt64):List UInt64:=P6 (fsq (It a)) (Zv a)
def f10 (a:List UInt64):List UInt64:=P6 (Fu 5 (f5 a)) (f5 a)
def f20 (a:List UInt64):List UInt64:=P6 (Fu 10 (f10 a)) (f10 a)
def f50 (a:List UInt64):List UInt64:=P6 (Fu 10 (P6 (Fu 20 (f20 a)) (f20 a))) (f10 a)
def A3f (a:List UInt64):List UInt64:=P6 (Fu 50 (f50 a)) (f50 a)
def Sd (a:List UInt64):List UInt64:=P6 (Fu 50 (P6 (Fu 100 (A3f a)) (A3f a))) (f50 a)
def Ws (a:List UInt64):List UInt64:=P6 (Fu 5 (Sd a)) (It a)
@[simp, go_sem] theorem D2a (a : List UInt64) : (Zv a).length = 5 := rfl
@[simp, go_sem] theorem C5z (a : List UInt64) : (It a).length = 5 := rfl
@[simp, go_sem] theorem E0i (a : List UInt64) : (f5 a).length = 5 := rfl
@[simp, go_sem] theorem D6g (a : List UInt64) : (f10 a).length = 5 := rfl
@[simp, go_sem] theorem D8k (a : List UInt64) : (f20 a).length = 5 := rfl
@[simp, go_sem] theorem D7y (a : List UInt64) : (f50 a).length = 5 := rfl
@[simp, go_sem] theorem D3y (a : List UInt64) : (A3f a).length = 5 := rfl
@[simp, go_sem] theorem C9k (a : List UInt64) : (Sd a).length = 5 := rfl
@[simp, go_sem] theorem D5b (a : List UInt64) : (Ws a).length = 5 := rfl
def Gr (f:Nat→UInt8) (n i:Nat):List UInt8:=(List.range n).map fun j=>if j<i then f j else 0
@[simp, go_sem] theorem Hb (f : Nat → UInt8) (n i : Nat) : (Gr f n i).length = n := by simp [Gr]
theorem A6q {f:Nat→UInt8} {n i:Nat} (hi:i<n) {x:UInt8} (hx:x=f i):(Gr f n i).set i x=Gr f n (i+1):=by
 subst hx;apply List.ext_getElem?;intro j;unfold Gr;rw[List.getElem?_set];by_cases h:i=j
 ·subst h;rw[if_pos rfl,if_pos (by simpa using hi),List.getElem?_map,List.getElem?_range hi];simp
 ·rw[if_neg h,List.getElem?_map,List.getElem?_map];by_cases hj:j<n
  ·rw[List.getElem?_range hj];simp only[Option.map_some];have:(j<i+1)↔(j<i):=by omega
   simp[this]
  ·rw[List.getElem?_eq_none (by simpa using hj)];rfl
theorem Wn {f:Nat→UInt8} {n:Nat}:Gr f n 0=z8 n:=by
 apply List.ext_getElem?;intro j;unfold Gr z8;rw[List.getElem?_map,List.getElem?_replicate];by_cases hj:j<n
 ·rw[List.getElem?_range hj,if_pos hj];rfl
 ·rw[List.getElem?_eq_none (by simpa using hj),if_neg hj];rfl
def A1n (ws:List UInt64) (j:Nat):UInt8:=(J6 ws (j / 8) >>> UInt64.ofNat (8*(j % 8))).toUInt8
def Qu (ws:List UInt64) (n:Nat):List UInt8:=Gr (A1n ws) n n
@[simp, go_sem] theorem Pv (ws : List UInt64) (n : Nat) : (Qu ws n).length = n := Hb _ _ _
def hq (b:List UInt64):Nat→UInt64
 | 0=>(J6 b 0+19) >>> (51:UInt64)
 | i+1=>(J6 b (i+1)+hq b i) >>> (51:UInt64)
def hs (b:List UInt64):Nat→List UInt64
 | 0=>b.set 0 (J6 b 0+19*hq b 4)
 | i+1=>((hs b i).set (i+1) (J6 (hs b i) (i+1)+J6 (hs b i) i >>> (51:UInt64))).set i (J6 (hs b i) i &&& (2251799813685247:UInt64))
theorem A4r {b:List UInt64} (hb:b.length=5):∀i,(hs b i).length=5
 | 0=>by simp[hs,hb]
 | i+1=>by simp[hs,A4r hb i]
def C2l (b:List UInt64):List UInt64:=(hs b 4).set 4 (J6 (hs b 4) 4 &&& (2251799813685247:UInt64))
def Dw (c:List UInt64):List UInt64:=[J6 c 0 ||| J6 c 1 <<< (51:UInt64),J6 c 1 >>> (13:UInt64) ||| J6 c 2 <<< (38:UInt64),J6 c 2 >>> (26:UInt64) ||| J6 c 3 <<< (25:UInt64),J6 c 3 >>> (39:UInt64) ||| J6 c 4 <<< (12:UInt64)]
@[simp, go_sem] theorem C8x (c : List UInt64) : (Dw c).length = 4 := rfl
def P5 (a:List UInt64):List UInt8:=Qu (Dw (C2l (Gc (Gc a)))) 32
@[simp, go_sem] theorem Ei (a : List UInt64) : (P5 a).length = 32 := Pv _ _
theorem Iv (a:List UInt64) (ha:a.length=5) (w:World):Calls Tryz.prog 103 #[J7 a] w fun e w'=>e=.returned (A8 (P5 a))∧Below w.heap.size w w':=by
 obtain⟨W0,aH⟩:∃z,z=(w.alloc (Obj.cells (C7 a).toArray 138)).alloc (Obj.cells (c8 (z8 32)).toArray 23):=⟨_,rfl⟩;have hL:W0=Q5 w [(138,C7 a),(23,c8 (z8 32))]:=aH;have B0:Below w.heap.size w W0:=by rw[hL];exact J9 _ _
 have A0:Bk W0 w.heap.size 138 (C7 a):=by rw[hL];exact F9 _ w 0 _ _ rfl
 have R0:Bk W0 (w.heap.size+1) 23 (c8 (z8 32)):=by rw[hL];exact F9 _ w 1 _ _ rfl
 have z0:w.heap.size+2≤W0.heap.size:=by rw[hL,H9];simp
 clear hL;have ra:=A0.row64 ha;rw[aH]at ra;go_enter Tryz.func103,Tryz.ntmps103;go_wp2_with fail;rw[←aH];clear aH ra;refine (Hn a ha W0).mono ?_;rintro e w1 ⟨rfl,b1⟩;go_wp2_with fail;refine (Hn (Gc a) rfl w1).mono ?_;rintro e w2 ⟨rfl,b2⟩;have aF:=C0 b1 b2 b1.size;have A2:=A0.below aF A0.lt;have R2:=R0.below aF R0.lt;have B2:=C0 B0 aF B0.size;have z2:=Nat.le_trans z0 aF.size;obtain⟨b,hb⟩:∃b,b=Gc (Gc a):=⟨_,rfl⟩;have aK:b.length=5:=by rw[hb];rfl
 have HB:Hid (P5 a=Qu (Dw (C2l b)) 32):=Lib.hid (by rw[hb];rfl);rw[←hb];clear hb A0 R0 B0 b1 b2 aF z0;have aG:E8 w2 ⟨w.heap.size,0,none⟩ 5=true:=A2.can (by simp[ha]);obtain⟨W3,aC⟩:∃z,z=C9 w2 ⟨w.heap.size,0,none⟩ (C7 b):=⟨_,rfl⟩;have A3:Bk W3 w.heap.size 138 (C7 b):=by rw[aC];exact A2.puts (by simp[ha,aK])
 have R3:Bk W3 (w.heap.size+1) 23 (c8 (z8 32)):=by rw[aC];exact R2.putFar (by simp) _
 have B3:Below w.heap.size w W3:=by rw[aC];exact C1 B2 (Nat.le_refl _) _
 have z3:w.heap.size+2≤W3.heap.size:=by rw[aC];have:=(C1 (Below.refl w.heap.size w2) (a:=⟨w.heap.size,0,none⟩) (Nat.le_refl _) (C7 b)).size;omega
 have k0:=A3.at_ (M2 (l:=b) (i:=0) (by omega));rw[aC]at k0;clear A2 R2 B2 z2;go_wp2_with fail;rw[←aC];clear aC k0 aG;go_loop [4,3] (fun t q=>∃i:Nat,i<5∧t=.int .i64 ((i:Int)+1)∧q=.int .u64 (J0 (hq b i))) (fun t _=>5-(intOf t).toNat)
 case atStart=>exact ⟨0,by omega,rfl,rfl⟩
 case round=>
  obtain⟨i,hi,rfl,rfl⟩:=hrel;by_cases hlt:i+1<5
  ·have k0:=A3.at_ (M2 (l:=b) (i:=i+1) (by omega));have e1:(i:Int)+1<5:=by omega
   go_wp2_with fail;go_round;case rel=>exact ⟨i+1,hlt,by go_num,rfl⟩
   case measure=>simp[intOf];omega
  ·obtain rfl:i=4:=by omega
   have k0:=A3.at_ (M2 (l:=b) (i:=0) (by omega));have f0:=A3.frozen 0;obtain⟨W4,aD⟩:∃z,z=W3.setCell ⟨w.heap.size,0,none⟩ (.int .u64 (J0 (J6 b 0+19*hq b 4))):=⟨_,rfl⟩;have A4:Bk W4 w.heap.size 138 (C7 (hs b 0)):=by have:=A3.set_ 0 (.int .u64 (J0 (J6 b 0+19*hq b 4)));rw[Dh]at this;rw[aD];exact this
   have R4:Bk W4 (w.heap.size+1) 23 (c8 (z8 32)):=by rw[aD];exact R3.far (by simp) _
   have B4:Below w.heap.size w W4:=by rw[aD];exact B3.setCell (by simp) _
   have z4:w.heap.size+2≤W4.heap.size:=by rw[aD];simpa [World.setCell] using z3
   have e5:(((4:Nat):Int)+1)=5:=rfl;rw[e5];clear A3 R3 B3 z3 e5;go_wp2_with fail;rw[←aD];clear aD k0 f0;go_loopw [36] (fun t wr=>∃i:Nat,i≤4∧t=.int .i64 (i:Int)∧Bk wr w.heap.size 138 (C7 (hs b i))∧Bk wr (w.heap.size+1) 23 (c8 (z8 32))∧Below w.heap.size w wr∧w.heap.size+2≤wr.heap.size) (fun t _=>4-(intOf t).toNat)
   case atStart=>exact ⟨0,by omega,rfl,A4,R4,B4,z4⟩
   case round=>
    clear A4 R4 B4 z4;obtain⟨i,hi,rfl,A,R,B,z⟩:=hrel;have hl:=A4r aK i;by_cases hlt:i<4
    ·have k0:=A.at_ (M2 (l:=hs b i) (i:=i+1) (by omega));have k1:=A.at_ (M2 (l:=hs b i) (i:=i) (by omega));have f0:=A.frozen (i+1);have A5:=A.set_ (i+1) (.int .u64 (J0 (J6 (hs b i) (i+1)+J6 (hs b i) i >>> (51:UInt64))));have R5:=R.far (p:=⟨w.heap.size,i+1,none⟩) (by simp) (.int .u64 (J0 (J6 (hs b i) (i+1)+J6 (hs b i) i >>> (51:UInt64))));have k5:=A5.at_ (i:=i) (u:=.int .u64 (J0 (J6 (hs b i) i))) (by rw[List.getElem?_set_ne (by omega)];exact M2 (by omega));have f5:=A5.frozen i;have A6:=A5.set_ i (.int .u64 (J0 (J6 (hs b i) i &&& (2251799813685247:UInt64))));rw[Dh,Dh]at A6;have R6:=R5.far (p:=⟨w.heap.size,i,none⟩) (by simp) (.int .u64 (J0 (J6 (hs b i) i &&& (2251799813685247:UInt64))));have e1:(i:Int)+1<5:=by omega
     clear A R A5 R5;go_wp2_with fail;refine Du 13 (by kernel_rfl) (by kernel_rfl) ?_;simp only[List.take_succ_cons,List.take_zero,List.drop_succ_cons,List.drop_zero];repeat (go_big_quiet_step (fail))
     refine wpQuiet_nil ?_;rintro w6 ⟨aI,rfl⟩;have k6:((wr.drewN aI).setCell ⟨w.heap.size,i+1,none⟩ (.int .u64 (J0 (J6 (hs b i) (i+1)+J6 (hs b i) i >>> (51:UInt64))))).cell? ⟨w.heap.size,i,none⟩=some (.int .u64 (J0 (J6 (hs b i) i))):=k5;have f6:((wr.drewN aI).setCell ⟨w.heap.size,i+1,none⟩ (.int .u64 (J0 (J6 (hs b i) (i+1)+J6 (hs b i) i >>> (51:UInt64))))).frozen? ⟨w.heap.size,i,none⟩=false:=f5;clear k5 f5;go_wp2_with fail;go_roundw;case rel=>exact ⟨i+1,by omega,by go_num,A6,R6,((U1 B aI).setCell (by simp) _).setCell (by simp) _,by simpa [World.setCell] using z⟩
     case measure=>simp[intOf];omega
    ·obtain rfl:i=4:=by omega
     have k0:=A.at_ (M2 (l:=hs b 4) (i:=4) (by omega));have f0:=A.frozen 4;have e5:((4:Nat):Int)=4:=rfl;rw[e5];obtain⟨W5,aB⟩:∃z,z=wr.setCell ⟨w.heap.size,4,none⟩ (.int .u64 (J0 (J6 (hs b 4) 4 &&& (2251799813685247:UInt64)))):=⟨_,rfl⟩;have A5:Bk W5 w.heap.size 138 (C7 (C2l b)):=by have:=A.set_ 4 (.int .u64 (J0 (J6 (hs b 4) 4 &&& (2251799813685247:UInt64))));rw[Dh]at this;rw[aB];exact this
     have R5:Bk W5 (w.heap.size+1) 23 (c8 (z8 32)):=by rw[aB];exact R.far (by simp) _
     have B5:Below w.heap.size w W5:=by rw[aB];exact B.setCell (by simp) _
     have z5:w.heap.size+2≤W5.heap.size:=by rw[aB];simpa [World.setCell] using z
     have aN:(C2l b).length=5:=by simp[C2l,hl]
     obtain⟨cc,aJ⟩:∃c,c=C2l b:=⟨_,rfl⟩;rw[←aJ]at A5 aN;have HC:Hid (P5 a=Qu (Dw cc) 32):=Lib.hid (by rw[HB.out,aJ]);have c0:=A5.at_ (M2 (l:=cc) (i:=0) (by omega));have c1:=A5.at_ (M2 (l:=cc) (i:=1) (by omega));have c2:=A5.at_ (M2 (l:=cc) (i:=2) (by omega));have c3:=A5.at_ (M2 (l:=cc) (i:=3) (by omega));have c4:=A5.at_ (M2 (l:=cc) (i:=4) (by omega));obtain⟨W6,aE⟩:∃z,z=(C9 (W5.alloc (Obj.cells (C7 (J8 4)).toArray 182)) ⟨W5.heap.size,0,none⟩ (C7 (Dw cc))).alloc (Obj.cells (c8 (z8 32)).toArray 23):=⟨_,rfl⟩;have D6:Bk W6 W5.heap.size 182 (C7 (Dw cc)):=by rw[aE];exact (Bk.fresh64 W5 _ (by simp)).alloc _
     have b6:Below W5.heap.size W5 W6:=by rw[aE];exact (C1 ((Below.refl _ _).alloc (Nat.le_refl _) _) (Nat.le_refl _) _).alloc (by simp) _
     have O6:Bk W6 (W5.heap.size+1) 23 (c8 (z8 32)):=by rw[aE];simpa using Bk.new (C9 (W5.alloc (Obj.cells (C7 (J8 4)).toArray 182)) ⟨W5.heap.size,0,none⟩ (C7 (Dw cc))) 23 (c8 (z8 32))
     have aA:=Xo W5 182 (J8 4) 4 _ (by simp) rfl;have R6:=R5.below b6 R5.lt;have B6:=C0 B5 b6 B5.size;have aL:W5.heap.size=wr.heap.size:=by rw[aB];simp[World.setCell]
     rw[aL]at D6 O6 aA aE;obtain⟨p,hp⟩:∃g,g=wr.heap.size:=⟨_,rfl⟩;have zp:w.heap.size+2≤p:=by rw[hp];exact z
     rw[aB]at c0 c1 c2 c3 c4 aA;clear A R B z A5 R5 B5 z5 b6 aJ aL;go_wp2_with fail;rw[show [J6 cc 0 ||| J6 cc 1 <<< (51:UInt64),J6 cc 1 >>> (13:UInt64) ||| J6 cc 2 <<< (38:UInt64),J6 cc 2 >>> (26:UInt64) ||| J6 cc 3 <<< (25:UInt64),J6 cc 3 >>> (39:UInt64) ||| J6 cc 4 <<< (12:UInt64)]=Dw cc from rfl];rw[←aB,←aE];rw[←hp]at D6 O6 ⊢;clear aB aE hp c0 c1 c2 c3 c4 aA k0 f0 e5;rw[←Wn (f:=A1n (Dw cc))]at O6;go_loopw [102] (fun t wr=>∃i:Nat,i≤32∧t=.int .i64 (i:Int)∧Bk wr p 182 (C7 (Dw cc))∧Bk wr (p+1) 23 (c8 (Gr (A1n (Dw cc)) 32 i))∧Bk wr (w.heap.size+1) 23 (c8 (z8 32))∧Below w.heap.size w wr) (fun t _=>32-(intOf t).toNat)
     case atStart=>exact ⟨0,by omega,rfl,D6,O6,R6,B6⟩
     case round=>
      clear D6 O6 R6 B6;obtain⟨i,hi,rfl,D,O,R,B⟩:=hrel;by_cases hlt:i<32
      ·have aP:(i:Int) / 8=((i / 8:Nat):Int):=by omega
       have aQ:(i:Int) % 8=((i % 8:Nat):Int):=by omega
       have hx:A1n (Dw cc) i=(J6 (Dw cc) (i / 8) >>> UInt64.ofNat (8*(i % 8))).toUInt8:=rfl;have d0:=D.at_ (M2 (l:=Dw cc) (i:=i / 8) (by simp;omega));have o0:=O.at_ (Fm (l:=Gr (A1n (Dw cc)) 32 i) (i:=i) (by simpa using hlt));have f0:=O.frozen i;have aR:i / 8<4:=by omega
       have aS:i % 8<8:=by omega
       have HX:=Lib.hid hx;have O3:=O.set_ i (.int .u8 (n8 (J6 (Dw cc) (i / 8) >>> UInt64.ofNat (8*(i % 8))).toUInt8));rw[Ia,A6q (f:=A1n (Dw cc)) hlt HX.out.symm]at O3;clear hx;generalize i / 8=qq at *;generalize i % 8=rr at *;obtain⟨ss,aM⟩:∃s,s=8*rr:=⟨_,rfl⟩;have h8:8*(rr:Int)=(ss:Int):=by omega
       have aO:ss<64:=by omega
       rw[←aM]at O3;clear HX aM;go_wp2_with fail;go_roundw;case rel=>exact ⟨i+1,by omega,by go_num,D.far (by simp) _,O3,R.far (by simp;omega) _,B.setCell (by simp;omega) _⟩
       case measure=>simp[intOf];omega
      ·obtain rfl:i=32:=by omega
       have hO:Bk wr (p+1) 23 (c8 (Qu (Dw cc) 32)):=O;rw[←HC.out]at hO;have ro:=hO.row8 (n:=32) (by simp);have aG:E8 wr ⟨w.heap.size+1,0,none⟩ 32=true:=R.can (by simp);have e5:((32:Nat):Int)=32:=rfl;rw[e5];clear e5 O hO D;go_wp2_with fail;refine bodyPost_ret (E9 rfl _ _ _ _ _ _ rfl (R.puts (vs:=c8 (P5 a)) (by simp)) Tryz.underlying23 rfl (by simp[N6])) rfl ⟨rfl,C1 B (by simp) _⟩
def A1t (a:List UInt64):Bool:=g8 (P5 a) 0 &&& 1==1
theorem Lo (a:List UInt64) (ha:a.length=5) (w:World):Calls Tryz.prog 104 #[J7 a] w fun e w'=>e=.returned (.bool (A1t a))∧Below w.heap.size w w':=by
 obtain⟨W0,aA⟩:∃z,z=w.alloc (Obj.cells (C7 a).toArray 138):=⟨_,rfl⟩;have B0:Below w.heap.size w W0:=by rw[aA];exact (Below.refl _ _).alloc (Nat.le_refl _) _
 have A0:Bk W0 w.heap.size 138 (C7 a):=by rw[aA];exact Bk.new w _ _
 have ra:=A0.row64 ha;rw[aA]at ra;have hl:(P5 a).length=32:=by simp
 have hb:(n8 (g8 (P5 a) 0 &&& 1)==1)=A1t a:=Qh (x:=g8 (P5 a) 0 &&& 1) (y:=1);go_enter Tryz.func104,Tryz.ntmps104;go_wp2_with fail;rw[←aA];clear aA ra;refine (Iv a ha W0).mono ?_;rintro e w1 ⟨rfl,b1⟩;go_wp2_with fail;go_ret;exact ⟨rfl,C0 B0 b1 B0.size⟩
def wl (b:List UInt8) (n:Nat):Nat→List UInt64
 | 0=>J8 n
 | i+1=>(wl b n i).set (i / 8) (J6 (wl b n i) (i / 8) ||| (g8 b i).toUInt64 <<< UInt64.ofNat (8*(i % 8)))
@[simp] theorem B9u (b : List UInt8) (n : Nat) : ∀ i, (wl b n i).length = n
 | 0=>by simp[wl]
 | i+1=>by simp[wl,B9u b n i]
def Qb (ws:List UInt64):List UInt64:=[J6 ws 0 &&& (2251799813685247:UInt64),(J6 ws 0 >>> (51:UInt64) ||| J6 ws 1 <<< (13:UInt64)) &&& (2251799813685247:UInt64),(J6 ws 1 >>> (38:UInt64) ||| J6 ws 2 <<< (26:UInt64)) &&& (2251799813685247:UInt64),(J6 ws 2 >>> (25:UInt64) ||| J6 ws 3 <<< (39:UInt64)) &&& (2251799813685247:UInt64),J6 ws 3 >>> (12:UInt64) &&& (2251799813685247:UInt64)]
@[simp, go_sem] theorem D3l (ws : List UInt64) : (Qb ws).length = 5 := rfl
def Ij (b:List UInt8):Bool:=!((J6 (wl b 4 32) 3 >>> (63:UInt64) != 0)||(P5 (Qb (wl b 4 32)) != b))
def T7 (b:List UInt8):List UInt64:=if Ij b then Qb (wl b 4 32) else J8 5
theorem M7 (b:List UInt8):(T7 b).length=5:=by unfold T7;split<;>simp
def Fx:List UInt64:=[1718705420411056,234908883556509,2233514472574048,2117202627021982,765476049583133]
@[simp, go_sem] theorem C2s : Fx.length = 5 := rfl
theorem A7b (w:World):Calls Tryz.prog 152 #[] w fun e w'=>e=.returned (J7 Fx)∧Below w.heap.size w w':=by
 obtain⟨W0,aA⟩:∃z,z=w.alloc (Obj.cells (C7 (J8 5)).toArray 138):=⟨_,rfl⟩;have B0:Below w.heap.size w W0:=by rw[aA];exact (Below.refl _ _).alloc (Nat.le_refl _) _
 have R0:Bk W0 w.heap.size 138 (C7 (J8 5)):=by rw[aA];exact Bk.new w _ _
 have aB:E8 W0 ⟨w.heap.size,0,none⟩ 5=true:=R0.can (by simp);rw[aA]at aB;have e0:Ai (.int .u64 1718705420411056)=some 1718705420411056:=De 1718705420411056;have e1:Ai (.int .u64 234908883556509)=some 234908883556509:=De 234908883556509;have e2:Ai (.int .u64 2233514472574048)=some 2233514472574048:=De 2233514472574048;have e3:Ai (.int .u64 2117202627021982)=some 2117202627021982:=De 2117202627021982;have e4:Ai (.int .u64 765476049583133)=some 765476049583133:=De 765476049583133;have aC:∀(W:World) (raw:Result Next),Lr W raw (.int .u64 1718705420411056) (.int .u64 234908883556509) (.int .u64 2233514472574048) (.int .u64 2117202627021982) (.int .u64 765476049583133)=.ok (.value (J7 Fx)) W:=fun W raw=>by
  unfold Lr;rw[e0,e1,e2,e3,e4];rfl
 clear e0 e1 e2 e3 e4;have hm:Fx.length=5:=rfl;go_enter Tryz.func152,Tryz.ntmps152;go_wp2_with fail;rw[←aA];refine bodyPost_ret (E9 rfl _ _ _ _ _ _ rfl (R0.puts (vs:=C7 Fx) (by simp)) Fp rfl (by simp[Mh])) rfl ⟨rfl,C1 B0 (Nat.le_refl _) _⟩
theorem B2l (b:List UInt8) (hb:b.length=32) (w:World):Calls Tryz.prog 125 #[A8 b] w fun e w'=>e=.returned (.tuple #[J7 (T7 b),.bool (Ij b)])∧Below w.heap.size w w':=by
 obtain⟨W0,aA⟩:∃z,z=((w.alloc (Obj.cells (c8 b).toArray 23)).alloc (Obj.cells (C7 (J8 5)).toArray 138)).alloc (Obj.cells (C7 (J8 4)).toArray 182):=⟨_,rfl⟩;have B0:Below w.heap.size w W0:=by rw[aA];exact (((Below.refl _ _).alloc (Nat.le_refl _) _).alloc (by simp) _).alloc (by simp;try omega) _
 have K0:Bk W0 w.heap.size 23 (c8 b):=by rw[aA];exact ((Bk.new w _ _).alloc _).alloc _
 have R0:Bk W0 (w.heap.size+1) 138 (C7 (J8 5)):=by rw[aA];refine Bk.alloc ?_ _;simpa using Bk.new (w.alloc (Obj.cells (c8 b).toArray 23)) 138 (C7 (J8 5))
 have D0:Bk W0 (w.heap.size+2) 182 (C7 (J8 4)):=by rw[aA];simpa using Bk.new ((w.alloc (Obj.cells (c8 b).toArray 23)).alloc (Obj.cells (C7 (J8 5)).toArray 138)) 182 (C7 (J8 4))
 have z0:w.heap.size+3≤W0.heap.size:=by rw[aA];simp
 have rk:=K0.row8 hb;rw[aA]at rk;go_enter Tryz.func125,Tryz.ntmps125;go_wp2_with fail;rw[←aA];clear aA rk;go_loopw [9] (fun t wr=>∃i:Nat,i≤32∧t=.int .i64 (i:Int)∧Bk wr w.heap.size 23 (c8 b)∧Bk wr (w.heap.size+2) 182 (C7 (wl b 4 i))∧Bk wr (w.heap.size+1) 138 (C7 (J8 5))∧Below w.heap.size w wr∧w.heap.size+3≤wr.heap.size) (fun t _=>32-(intOf t).toNat)
 case atStart=>exact ⟨0,by omega,rfl,K0,D0,R0,B0,z0⟩
 case round=>
  clear K0 D0 R0 B0 z0;obtain⟨i,hi,rfl,K,D,R,B,z⟩:=hrel;by_cases hlt:i<32
  ·have aP:(i:Int) / 8=((i / 8:Nat):Int):=by omega
   have aQ:(i:Int) % 8=((i % 8:Nat):Int):=by omega
   have hx:wl b 4 (i+1)=(wl b 4 i).set (i / 8) (J6 (wl b 4 i) (i / 8) ||| (g8 b i).toUInt64 <<< UInt64.ofNat (8*(i % 8))):=rfl;have d0:=D.at_ (M2 (l:=wl b 4 i) (i:=i / 8) (by simp;omega));have f0:=D.frozen (i / 8);have aR:i / 8<4:=by omega
   have aS:i % 8<8:=by omega
   have D3:=D.set_ (i / 8) (.int .u64 (J0 (J6 (wl b 4 i) (i / 8) ||| (g8 b i).toUInt64 <<< UInt64.ofNat (8*(i % 8)))));rw[Dh,←hx]at D3;have HX:=Lib.hid hx;clear hx;generalize i / 8=qq at *;generalize i % 8=rr at *;obtain⟨ss,aF⟩:∃s,s=8*rr:=⟨_,rfl⟩;have h8:8*(rr:Int)=(ss:Int):=by omega
   have aJ:ss<64:=by omega
   rw[←aF]at D3;clear HX aF;go_wp2_with fail;go_roundw;case rel=>exact ⟨i+1,by omega,by go_num,K.far (by show w.heap.size≠w.heap.size+2;omega) _,D3,R.far (by simp) _,B.setCell (by show w.heap.size≤w.heap.size+2;omega) _,by simpa [World.setCell] using z⟩
   case measure=>simp[intOf];omega
  ·obtain rfl:i=32:=by omega
   have e5:((32:Nat):Int)=32:=rfl;rw[e5];clear e5;have d0:=D.at_ (M2 (l:=wl b 4 32) (i:=0) (by simp));have d1:=D.at_ (M2 (l:=wl b 4 32) (i:=1) (by simp));have d2:=D.at_ (M2 (l:=wl b 4 32) (i:=2) (by simp));have d3:=D.at_ (M2 (l:=wl b 4 32) (i:=3) (by simp));have HD:Hid (Ij b = !((J6 (wl b 4 32) 3 >>> (63:UInt64) != 0)||(P5 (Qb (wl b 4 32)) != b))):=Lib.hid rfl;have HL:Hid (T7 b=if Ij b then Qb (wl b 4 32) else J8 5):=Lib.hid rfl;have aG:(wl b 4 32).length=4:=by simp
   generalize wl b 4 32=ws at *;have aB:=Xo wr 138 (J8 5) 5 _ (by simp) rfl;obtain⟨W6,aD⟩:∃z,z=C9 (wr.alloc (Obj.cells (C7 (J8 5)).toArray 138)) ⟨wr.heap.size,0,none⟩ (C7 (Qb ws)):=⟨_,rfl⟩;have E6:Bk W6 wr.heap.size 138 (C7 (Qb ws)):=by rw[aD];exact Bk.fresh64 wr _ (by simp)
   have b6:Below wr.heap.size wr W6:=by rw[aD];exact C1 ((Below.refl _ _).alloc (Nat.le_refl _) _) (Nat.le_refl _) _
   have R6:=R.below b6 R.lt;have K6:=K.below b6 K.lt;have D6:=D.below b6 D.lt;have B6:=C0 B b6 B.size;obtain⟨p,hp⟩:∃g,g=wr.heap.size:=⟨_,rfl⟩;have zp:w.heap.size+3≤p:=by rw[hp];exact z
   clear K D R B z;go_wp2_with fail;rw[show [J6 ws 0 &&& (2251799813685247:UInt64),(J6 ws 0 >>> (51:UInt64) ||| J6 ws 1 <<< (13:UInt64)) &&& (2251799813685247:UInt64),(J6 ws 1 >>> (38:UInt64) ||| J6 ws 2 <<< (26:UInt64)) &&& (2251799813685247:UInt64),(J6 ws 2 >>> (25:UInt64) ||| J6 ws 3 <<< (39:UInt64)) &&& (2251799813685247:UInt64),J6 ws 3 >>> (12:UInt64) &&& (2251799813685247:UInt64)]=Qb ws from rfl];rw[←aD];rw[←hp]at E6 ⊢;clear aD hp aB d0 d1 d2 d3 b6;have lW:(Qb ws).length=5:=rfl;by_cases ht:J6 ws 3 >>> (63:UInt64)=0
   ·have aK:(J0 (J6 ws 3 >>> (63:UInt64)) != 0)=false:=by rw[ht];rfl
    have HT:=Lib.hid ht;clear ht;have S0:Below W6.heap.size W6 W6.drew:=(Below.refl _ _).drew;have aT:(P5 (Qb ws)).length=32:=by simp
    refine F2 (fun W=>Below W6.heap.size W6 W) (by kernel_rfl) ?_;refine C6 (A:=?aU) [0,1,2,3,4,5,7] (by kernel_rfl) (by kernel_rfl) rfl (by kernel_rfl) (by kernel_rfl) S0 (h:=fun W hW=>?aL) (hr:=?aM);case aL=>
     have d3:=(D6.below hW D6.lt).at_ (M2 (l:=ws) (i:=3) (by rw[aG];omega));have e3:=(E6.below hW E6.lt).row64 lW;have k3:=(K6.below hW K6.lt).row8 hb;simp only[pick,List.getElem?_cons_zero,List.getElem?_cons_succ];repeat (go_big_quiet_step (fail))
     refine wpQuiet_nil ?_;rfl
    case aM=>
     refine C4 6 (by kernel_rfl) (by rfl) (by rfl) (fun Q' hQ'=>?_);dsimp only[E4];go_wp2_with fail;refine (Iv (Qb ws) lW W6.drew).mono ?_;rintro e w7 ⟨rfl,b7⟩;have S7:Below W6.heap.size W6 w7:=S0.trans b7;have R7:=R6.below S7 R6.lt;have E7:=(E6.below S7 E6.lt).row64 lW;have B7:=C0 B6 S7 B6.size;go_wp2_with fail;refine hQ' _ _ S7 ?_;clear hQ';refine C6 (A:=?aV) [8,9] (by kernel_rfl) (by kernel_rfl) rfl (by kernel_rfl) (by kernel_rfl) S7 (h:=fun W hW=>?aN) (hr:=?aO);case aN=>
      simp only[List.append_eq,List.nil_append,List.cons_append,pick,List.getElem?_cons_zero,List.getElem?_cons_succ];repeat (go_big_quiet_step (fail))
      refine wpQuiet_nil ?_;rfl
     case aO=>
      refine I9 (by kernel_rfl) ?_;have aC:E8 w7 ⟨w.heap.size+1,0,none⟩ 5=true:=R7.can (by simp);obtain⟨cc,aE⟩:∃c,c=(P5 (Qb ws)==b):=⟨_,rfl⟩;rw[←aE];have aH:=Lib.hid aE;clear aE;cases cc;case true=>
       have he:P5 (Qb ws)=b:=by simpa using aH.out.symm
       have e1:Ij b=true:=by rw[HD.out,HT.out];simp[he]
       have e2:T7 b=Qb ws:=by rw[HL.out,if_pos e1]
       have E1:=Lib.hid e1;have E2:=Lib.hid e2;clear e1 e2 he;go_wp2_with fail;refine bodyPost_ret (v:=.tuple #[J7 (Qb ws),.bool true]) ?_ rfl ⟨by rw[E1.out,E2.out],C1 B7 (by simp) _⟩;refine P9 rfl ?_ ?_
       ·exact M5.row (R7.puts (vs:=C7 (Qb ws)) (by simp)) rfl _ Fp rfl (by simp[Mh])
       ·exact M5.tmp rfl
      case false=>
       have he:¬ P5 (Qb ws)=b:=by simpa using aH.out.symm
       have e1:Ij b=false:=by rw[HD.out,HT.out];simp[he]
       have e2:T7 b=J8 5:=by rw[HL.out,if_neg (by rw[e1];decide)]
       have E1:=Lib.hid e1;have E2:=Lib.hid e2;clear e1 e2 he;go_wp2_with fail;refine bodyPost_ret (v:=.tuple #[J7 (J8 5),.bool false]) ?_ rfl ⟨by rw[E1.out,E2.out],C1 B7 (by simp) _⟩;refine P9 rfl ?_ ?_
       ·exact M5.row (R7.puts (vs:=C7 (J8 5)) (by simp)) rfl _ Fp rfl (by simp[Mh])
       ·exact M5.tmp rfl
   ·have aK:(J0 (J6 ws 3 >>> (63:UInt64)) != 0)=true:=by rw[show (0:Int)=J0 0 from rfl,C9v];simpa using ht
    have e1:Ij b=false:=by rw[HD.out];simp[ht]
    clear ht;have e2:T7 b=J8 5:=by rw[HL.out,if_neg (by rw[e1];decide)]
    have E1:=Lib.hid e1;have E2:=Lib.hid e2;have d3:=D6.at_ (M2 (l:=ws) (i:=3) (by rw[aG];omega));have aC:E8 W6 ⟨w.heap.size+1,0,none⟩ 5=true:=R6.can (by simp);clear e1 e2;go_quiet (fail);have aI:E8 (W6.drewN nq) ⟨w.heap.size+1,0,none⟩ 5=true:=aC;go_wp2_with fail;refine bodyPost_ret (v:=.tuple #[J7 (J8 5),.bool false]) ?_ rfl ⟨by rw[E1.out,E2.out],C1 (U1 B6 nq) (by simp) _⟩;refine P9 rfl ?_ ?_
    ·exact M5.row ((R6.drewN nq).puts (vs:=C7 (J8 5)) (by simp)) rfl _ Fp rfl (by simp[Mh])
    ·exact M5.tmp rfl
section
section
variable (w : World) (ρ : Operand → Value) (dst : Option Tmp) (ty : TypeId) (pos : String) (after : Array Edge) (guard : Option (Nat × Bool))
@[go_sem ↓ high] theorem E7f (x ix : Operand) :
 (execOp ρ { dst,op:=.index 182 x ix,type:=ty,pos,after,guard }).run Tryz.prog w=A0w 4 w (M6 Tryz.prog ρ { dst,op:=.index 182 x ix,type:=ty,pos,after,guard } w) (ρ x) (ρ ix):=
 Md w ρ dst ty pos after guard 182 _ 4 x ix Tryz.underlying182 (by kernel_rfl) (by kernel_rfl)
end
def Kt:List UInt64:=[6346243789798364141,1503914060200516822,0,1152921504606846976]
@[simp, go_sem] theorem B3a : Kt.length = 4 := rfl
attribute [irreducible] Kt
theorem C1o (w:World):Calls Tryz.prog 150 #[] w fun e w'=>e=.returned (J7 Kt)∧Below w.heap.size w w':=by
 obtain⟨W0,aA⟩:∃z,z=w.alloc (Obj.cells (C7 (J8 4)).toArray 182):=⟨_,rfl⟩;have B0:Below w.heap.size w W0:=by rw[aA];exact (Below.refl _ _).alloc (Nat.le_refl _) _
 have R0:Bk W0 w.heap.size 182 (C7 (J8 4)):=by rw[aA];exact Bk.new w _ _
 have aB:E8 W0 ⟨w.heap.size,0,none⟩ 4=true:=R0.can (by simp);rw[aA]at aB;have e0:Ai (.int .u64 6346243789798364141)=some 6346243789798364141:=De 6346243789798364141;have e1:Ai (.int .u64 1503914060200516822)=some 1503914060200516822:=De 1503914060200516822;have e2:Ai (.int .u64 0)=some 0:=De 0;have e3:Ai (.int .u64 1152921504606846976)=some 1152921504606846976:=De 1152921504606846976;have aC:∀(W:World) (raw:Result Next),Lu W raw (.int .u64 6346243789798364141) (.int .u64 1503914060200516822) (.int .u64 0) (.int .u64 1152921504606846976)=.ok (.value (J7 Kt)) W:=fun W raw=>by
  unfold Lu Kt;rw[e0,e1,e2,e3]
 clear e0 e1 e2 e3;have hm:Kt.length=4:=B3a;go_enter Tryz.func150,Tryz.ntmps150;go_wp2_with fail;rw[←aA];refine bodyPost_ret (E9 rfl _ _ _ _ _ _ rfl (R0.puts (vs:=C7 Kt) (by simp)) Tryz.underlying182 rfl (by simp[Ud])) rfl ⟨rfl,C1 B0 (Nat.le_refl _) _⟩
def A8x (w l:List UInt64):Nat→UInt64
 | 0=>0
 | i+1=>C0p (J6 w i) (J6 l i) (A8x w l i)
def C1i (w l:List UInt64) (j:Nat):UInt64:=B9w (J6 w j) (J6 l j) (A8x w l j)
def D5c (w l:List UInt64):List UInt64:=Jz (C1i w l) (fun _=>0) 4 4
@[simp, go_sem] theorem C9m (w l : List UInt64) : (D5c w l).length = 4 := Ot _ _ _ _
theorem D1w (w l:List UInt64):∀i,(A8x w l i).toNat≤1
 | 0=>by show (0:UInt64).toNat≤1;decide
 | i+1=>D2q _ _ _
def Z4 (w:List UInt64):List UInt64:=if A8x w Kt 4=1 then w else D5c w Kt
theorem Dy {w:List UInt64} (hw:w.length=4):(Z4 w).length=4:=by unfold Z4;split<;>simp[hw]
theorem Ps (x:List UInt64) (hx:x.length=4) (w:World):Calls Tryz.prog 137 #[J7 x] w fun e w'=>e=.returned (J7 (Z4 x))∧Below w.heap.size w w':=by
 obtain⟨W0,aB⟩:∃z,z=((w.alloc (Obj.cells (C7 x).toArray 182)).alloc (Obj.cells (C7 (J8 4)).toArray 182)).alloc (Obj.cells (C7 (J8 4)).toArray 182):=⟨_,rfl⟩;have hL:W0=Q5 w [(182,C7 x),(182,C7 (J8 4)),(182,C7 (J8 4))]:=aB;have B0:Below w.heap.size w W0:=by rw[hL];exact J9 _ _
 have A0:Bk W0 w.heap.size 182 (C7 x):=by rw[hL];exact F9 _ w 0 _ _ rfl
 have R0:Bk W0 (w.heap.size+1) 182 (C7 (J8 4)):=by rw[hL];exact F9 _ w 1 _ _ rfl
 have D0:Bk W0 (w.heap.size+2) 182 (C7 (J8 4)):=by rw[hL];exact F9 _ w 2 _ _ rfl
 clear hL;go_enter Tryz.func137,Tryz.ntmps137;go_wp2_with fail;rw[←aB];clear aB;refine (C1o W0).mono ?_;rintro e w1 ⟨rfl,b1⟩;have A1:=A0.below b1 A0.lt;have R1:=R0.below b1 R0.lt;have D1:=D0.below b1 D0.lt;have B1:=C0 B0 b1 B0.size;clear A0 R0 D0 B0 b1;go_wp2_with fail;rw[←B3i (f:=C1i x Kt)]at D1;go_loopw [8,4] (fun t q wr=>∃i:Nat,i≤4∧t=.int .i64 (i:Int)∧q=.int .u64 (J0 (A8x x Kt i))∧Bk wr w.heap.size 182 (C7 x)∧Bk wr (w.heap.size+1) 182 (C7 (J8 4))∧Bk wr (w.heap.size+2) 182 (C7 (Jz (C1i x Kt) (fun _=>0) 4 i))∧Below w.heap.size w wr) (fun t _ _=>4-(intOf t).toNat)
 case atStart=>exact ⟨0,by omega,rfl,rfl,A1,R1,D1,B1⟩
 case round=>
  clear A1 R1 D1 B1;obtain⟨i,hi,rfl,rfl,K,R,D,B⟩:=hrel;by_cases hlt:i<4
  ·have k0:=K.at_ (M2 (l:=x) (i:=i) (by omega));have f0:=D.frozen i;have aE:=D1w x Kt i;have D3:=D.set_ i (.int .u64 (J0 (B9w (J6 x i) (J6 Kt i) (A8x x Kt i))));rw[Dh,A2m (f:=C1i x Kt) (g:=fun _=>0) (x:=B9w (J6 x i) (J6 Kt i) (A8x x Kt i)) hlt rfl]at D3;have d0:=D.at_ (M2 (l:=Jz (C1i x Kt) (fun _=>0) 4 i) (i:=i) (by simpa using hlt));clear D;go_wp2_with fail;go_roundw;case rel=>exact ⟨i+1,by omega,by go_num,rfl,K.far (by show w.heap.size≠w.heap.size+2;omega) _,R.far (by simp) _,D3,B.setCell (by show w.heap.size≤w.heap.size+2;omega) _⟩
   case measure=>simp[intOf];omega
  ·obtain rfl:i=4:=by omega
   have e5:((4:Nat):Int)=4:=rfl;rw[e5];clear e5;have rk:=K.row64 (n:=4) hx;have rd:=D.row64 (n:=4) (by simp);have rc:E8 wr ⟨w.heap.size+1,0,none⟩ 4=true:=R.can (by simp);obtain⟨dd,aA⟩:∃d,d=Jz (C1i x Kt) (fun _=>0) 4 4:=⟨_,rfl⟩;have aD:dd.length=4:=by rw[aA];simp
   obtain⟨bb,aC⟩:∃b,b=A8x x Kt 4:=⟨_,rfl⟩;have he:Z4 x=if bb=1 then x else dd:=by rw[aC,aA];rfl
   rw[←aA]at rd D;rw[←aC];clear aA aC;have h1:(J0 bb==1)=true→Z4 x=x:=fun h=>by
    rw[he,if_pos];have e1:J0 1=1:=rfl;exact A7o (by rw[e1];exact eq_of_beq h)
   have h2:(J0 bb==1)=false→Z4 x=dd:=fun h=>by
    rw[he,if_neg];intro e;rw[e]at h;exact absurd h (by decide)
   clear he;go_wp2_with fail
   ·have hb:(J0 bb==1)=true:=by first | assumption | simpa using ‹_›
    refine bodyPost_ret (E9 rfl _ _ _ _ _ _ rfl (R.puts (vs:=C7 x) (by simp[hx])) Tryz.underlying182 rfl (by simp[Ud,hx])) rfl ⟨by rw[h1 hb];rfl,C1 B (by simp) _⟩
   ·have hb:(J0 bb==1)=false:=by first | assumption | simpa using ‹_›
    refine bodyPost_ret (E9 rfl _ _ _ _ _ _ rfl (R.puts (vs:=C7 dd) (by simp[aD])) Tryz.underlying182 rfl (by simp[Ud,aD])) rfl ⟨by rw[h2 hb];rfl,C1 B (by simp) _⟩
end
def D8 (a:List UInt64):List UInt8:=Qu a 32
@[simp, go_sem] theorem U3 (a : List UInt64) : (D8 a).length = 32 := Pv _ _
theorem Rm (a:List UInt64) (ha:a.length=4) (w:World):Calls Tryz.prog 107 #[J7 a] w fun e w'=>e=.returned (A8 (D8 a))∧Below w.heap.size w w':=by
 obtain⟨W0,aA⟩:∃z,z=((w.alloc (Obj.cells (C7 a).toArray 184)).alloc (Obj.cells (c8 (z8 32)).toArray 23)).alloc (Obj.cells (c8 (z8 32)).toArray 23):=⟨_,rfl⟩;have hL:W0=Q5 w [(184,C7 a),(23,c8 (z8 32)),(23,c8 (z8 32))]:=aA;have B0:Below w.heap.size w W0:=by rw[hL];exact J9 _ _
 have D0:Bk W0 w.heap.size 184 (C7 a):=by rw[hL];exact F9 _ w 0 _ _ rfl
 have R0:Bk W0 (w.heap.size+1) 23 (c8 (z8 32)):=by rw[hL];exact F9 _ w 1 _ _ rfl
 have O0:Bk W0 (w.heap.size+2) 23 (c8 (z8 32)):=by rw[hL];exact F9 _ w 2 _ _ rfl
 clear hL;go_enter Tryz.func107,Tryz.ntmps107;go_wp2_with fail;rw[←aA];clear aA;rw[←Wn (f:=A1n a)]at O0;go_loopw [5] (fun t wr=>∃i:Nat,i≤32∧t=.int .i64 (i:Int)∧Bk wr w.heap.size 184 (C7 a)∧Bk wr (w.heap.size+2) 23 (c8 (Gr (A1n a) 32 i))∧Bk wr (w.heap.size+1) 23 (c8 (z8 32))∧Below w.heap.size w wr) (fun t _=>32-(intOf t).toNat)
 case atStart=>exact ⟨0,by omega,rfl,D0,O0,R0,B0⟩
 case round=>
  clear D0 O0 R0 B0;obtain⟨i,hi,rfl,D,O,R,B⟩:=hrel;by_cases hlt:i<32
  ·have aE:(i:Int) / 8=((i / 8:Nat):Int):=by omega
   have aF:(i:Int) % 8=((i % 8:Nat):Int):=by omega
   have hx:A1n a i=(J6 a (i / 8) >>> UInt64.ofNat (8*(i % 8))).toUInt8:=rfl;have d0:=D.at_ (M2 (l:=a) (i:=i / 8) (by omega));have o0:=O.at_ (Fm (l:=Gr (A1n a) 32 i) (i:=i) (by simpa using hlt));have f0:=O.frozen i;have aG:i / 8<4:=by omega
   have aH:i % 8<8:=by omega
   have HX:=Lib.hid hx;have O3:=O.set_ i (.int .u8 (n8 (J6 a (i / 8) >>> UInt64.ofNat (8*(i % 8))).toUInt8));rw[Ia,A6q (f:=A1n a) hlt HX.out.symm]at O3;clear hx;generalize i / 8=qq at *;generalize i % 8=rr at *;obtain⟨ss,aB⟩:∃s,s=8*rr:=⟨_,rfl⟩;have h8:8*(rr:Int)=(ss:Int):=by omega
   have aC:ss<64:=by omega
   rw[←aB]at O3;clear HX aB;go_wp2_with fail;go_roundw;case rel=>exact ⟨i+1,by omega,by go_num,D.far (by show w.heap.size≠w.heap.size+2;omega) _,O3,R.far (by show w.heap.size+1≠w.heap.size+2;omega) _,B.setCell (by show w.heap.size≤w.heap.size+2;omega) _⟩
   case measure=>simp[intOf];omega
  ·obtain rfl:i=32:=by omega
   have hO:Bk wr (w.heap.size+2) 23 (c8 (D8 a)):=O;have ro:=hO.row8 (n:=32) (by simp);have aD:E8 wr ⟨w.heap.size+1,0,none⟩ 32=true:=R.can (by simp);have e5:((32:Nat):Int)=32:=rfl;rw[e5];clear e5 O hO D;go_wp2_with fail;refine bodyPost_ret (E9 rfl _ _ _ _ _ _ rfl (R.puts (vs:=c8 (D8 a)) (by simp)) Tryz.underlying23 rfl (by simp[N6])) rfl ⟨rfl,C1 B (by simp) _⟩
end Go.Proofs.YtlegpkdighoflaaGreat
