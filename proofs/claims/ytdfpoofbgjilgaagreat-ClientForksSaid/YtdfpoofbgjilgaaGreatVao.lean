/- A part of the proof of ClientForks. -/
import Derived.Test.YtdfpoofbgjilgaaGreatVan
set_option linter.unusedVariables false
set_option linter.unusedSimpArgs false
set_option maxRecDepth 100000
set_option maxHeartbeats 40000000
namespace Go.Proofs.YtdfpoofbgjilgaaGreat
open Go Go.RowKit Sh
section
def F7r (a b:List UInt64) (j:Nat):UInt64:=E8 a j+E8 b j
def E7b (a b:List UInt64) (j:Nat):UInt64:=E8 a j+(9007199254740988-E8 b j)
def D4l (a b:List UInt64):List UInt64:=Hv (F7r a b) (E8 a) 5 5
def D6z (a b:List UInt64):List UInt64:=(Hv (E7b a b) (E8 a) 5 5).set 0 (E7b a b 0-72)
@[simp, go_sem] theorem D8y (a b : List UInt64) : (D4l a b).length = 5 := rfl
@[simp, go_sem] theorem D8s (a b : List UInt64) : (D6z a b).length = 5 := rfl
def Ed (a b:List UInt64):List UInt64:=Ez (D4l a b)
def Es (a b:List UInt64):List UInt64:=Ez (D6z a b)
@[simp, go_sem] theorem D9d (a b : List UInt64) : (Ed a b).length = 5 := rfl
@[simp, go_sem] theorem D8r (a b : List UInt64) : (Es a b).length = 5 := rfl
def Z9 (v:UInt64):List UInt64:=[v &&& 2251799813685247,v >>> 51,0,0,0]
@[simp, go_sem] theorem D2q (v : UInt64) : (Z9 v).length = 5 := rfl
def Dl:Nat→List UInt64→List UInt64
 | 0,a=>a
 | n+1,a=>fsq (Dl n a)
@[simp, go_sem] theorem Wx {a : List UInt64} (ha : a.length = 5) : ∀ n, (Dl n a).length = 5
 | 0=>ha
 | _+1=>rfl
set_option maxRecDepth 100000
theorem Cl (a b:List UInt64) (ha:a.length=5) (hb:b.length=5) (w:World):Calls Tryz.prog 169 #[F8 a,F8 b] w fun e w'=>e=.returned (F8 (Ed a b))∧Below w.heap.size w w':=by
 revert a;refine A8a fun a0 a1 a2 a3 a4=>?_;revert b;refine A8a fun b0 b1 b2 b3 b4=>?_;let a:=[a0,a1,a2,a3,a4]
 let b:=[b0,b1,b2,b3,b4]
 exact H7 (g:=gE) 100 (avs a++avs b) (((List.range 5).map fun i=>Xj (E8 a i) (E8 b i))++[dE5 (Ff (D4l a b) rfl)]) F9 Tryz.func169 (by kernel_rfl)
theorem Bi (a b:List UInt64) (ha:a.length=5) (hb:b.length=5) (w:World):Calls Tryz.prog 170 #[F8 a,F8 b] w fun e w'=>e=.returned (F8 (Es a b))∧Below w.heap.size w w':=by
 revert a;refine A8a fun a0 a1 a2 a3 a4=>?_;revert b;refine A8a fun b0 b1 b2 b3 b4=>?_;let a:=[a0,a1,a2,a3,a4]
 let b:=[b0,b1,b2,b3,b4]
 let M:UInt64:=9007199254740988
 exact H7 (g:=gE) 100 (avs a++avs b) (((List.range 5).flatMap fun i=>[E7p M (E8 b i),Xj (E8 a i) (M-E8 b i)])++[E7p (a0+(M-b0)) 72,dE5 (Ff (D6z a b) rfl)]) F9 Tryz.func170 (by kernel_rfl)
theorem Gs (v:UInt64) (w:World):Calls Tryz.prog 166 #[.int .u64 (C8 v)] w fun e w'=>e=.returned (F8 (Z9 v))∧Below w.heap.size w w':=H7 (g:=gE) 100 (avs [v]) [Dm v 2251799813685247,Ek v .u64 51 (by decide)] F9 Tryz.func166 (by kernel_rfl)
theorem Mw (a:List UInt64) (ha:a.length=5) (n:Nat) (hn:n≤1000000) (w:World):Calls Tryz.prog 172 #[F8 a,.int .i64 (n:Int)] w fun e w'=>e=.returned (F8 (Dl n a))∧Below w.heap.size w w':=by
 obtain⟨W0,aA⟩:∃z,z=(w.alloc (Obj.cells (E4 a).toArray 158)).alloc (Obj.cells (E4 (J7 5)).toArray 158):=⟨_,rfl⟩;have hL:W0=Q6 w [(158,E4 a),(158,E4 (J7 5))]:=aA;have B0:Below w.heap.size w W0:=by rw[hL];exact H6 _ _
 have A0:Bk W0 w.heap.size 158 (E4 a):=by rw[hL];exact E0 _ w 0 _ _ rfl
 have R0:Bk W0 (w.heap.size+1) 158 (E4 (J7 5)):=by rw[hL];exact E0 _ w 1 _ _ rfl
 clear hL;go_enter Tryz.func172,Tryz.ntmps172;go_wp2_with fail;rw[←aA];clear aA;go_loopw [6] (fun t wr=>∃i:Nat,i≤n∧t=.int .i64 (i:Int)∧Bk wr w.heap.size 158 (E4 (Dl i a))∧Bk wr (w.heap.size+1) 158 (E4 (J7 5))∧Below w.heap.size w wr) (fun t _=>n-(intOf t).toNat)
 case atStart=>exact ⟨0,by omega,rfl,A0,R0,B0⟩
 case round=>
  clear A0 R0 B0;obtain⟨i,hi,rfl,K,R,B⟩:=hrel;have hl:=Wx ha i;have rk:=K.row64 hl;by_cases hlt:i<n
  ·go_wp2_with fail;refine (Yo (Dl i a) hl wr).mono ?_;rintro e w1 ⟨rfl,b1⟩;have K1:=K.below b1 K.lt;have R1:=R.below b1 R.lt;have B1:=C1 B b1 B.size;have aB:E7 w1 ⟨w.heap.size,0,none⟩ 5=true:=K1.can (by simp[hl]);go_wp2_with fail;go_roundw;case rel=>exact ⟨i+1,by omega,by go_num,K1.puts (by simp[hl]),R1.putFar (by simp) _,C0 B1 (by simp) _⟩
   case measure=>simp[intOf];omega
  ·obtain rfl:i=n:=by omega
   have aB:E7 wr ⟨w.heap.size+1,0,none⟩ 5=true:=R.can (by simp);go_wp2_with fail;refine bodyPost_ret (C7 rfl _ _ _ _ _ _ rfl (R.puts (vs:=E4 (Dl i a)) (by simp[hl])) Pe rfl (by simp[A6w,hl])) rfl ⟨rfl,C0 B (by simp) _⟩
end
theorem Bk.row8 {w:World} {g:Nat} {t:TypeId} {l:List UInt8} {n:Nat} (h:Bk w g t (c8 l)) (hl:l.length=n):D9 w ⟨g,0,none⟩ n=some (c8 l):=by have:=h.rows;rwa [C6,hl]at this
def A2j (a:List UInt64):List UInt64:=J5 (Dl 2 (fsq a)) a
def Fx (a:List UInt64):List UInt64:=J5 (A2j a) (fsq a)
def f5 (a:List UInt64):List UInt64:=J5 (fsq (Fx a)) (A2j a)
def f10 (a:List UInt64):List UInt64:=J5 (Dl 5 (f5 a)) (f5 a)
def f20 (a:List UInt64):List UInt64:=J5 (Dl 10 (f10 a)) (f10 a)
def f50 (a:List UInt64):List UInt64:=J5 (Dl 10 (J5 (Dl 20 (f20 a)) (f20 a))) (f10 a)
def A2x (a:List UInt64):List UInt64:=J5 (Dl 50 (f50 a)) (f50 a)
def Qe (a:List UInt64):List UInt64:=J5 (Dl 50 (J5 (Dl 100 (A2x a)) (A2x a))) (f50 a)
def Vk (a:List UInt64):List UInt64:=J5 (Dl 5 (Qe a)) (Fx a)
@[simp, go_sem] theorem D4b (a : List UInt64) : (A2j a).length = 5 := rfl
@[simp, go_sem] theorem C7h (a : List UInt64) : (Fx a).length = 5 := rfl
@[simp, go_sem] theorem E4t (a : List UInt64) : (f5 a).length = 5 := rfl
@[simp, go_sem] theorem D9h (a : List UInt64) : (f10 a).length = 5 := rfl
@[simp, go_sem] theorem E2l (a : List UInt64) : (f20 a).length = 5 := rfl
@[simp, go_sem] theorem E1b (a : List UInt64) : (f50 a).length = 5 := rfl
@[simp, go_sem] theorem D8w (a : List UInt64) : (A2x a).length = 5 := rfl
@[simp, go_sem] theorem D4m (a : List UInt64) : (Qe a).length = 5 := rfl
@[simp, go_sem] theorem D8d (a : List UInt64) : (Vk a).length = 5 := rfl
section
def Fm (f:Nat→UInt8) (n i:Nat):List UInt8:=(List.range n).map fun j=>if j<i then f j else 0
@[simp, go_sem] theorem El (f : Nat → UInt8) (n i : Nat) : (Fm f n i).length = n := by simp [Fm]
theorem B9d {f:Nat→UInt8} {n i:Nat} (hi:i<n) {x:UInt8} (hx:x=f i):(Fm f n i).set i x=Fm f n (i+1):=by
 subst hx;apply List.ext_getElem?;intro j;unfold Fm;rw[List.getElem?_set];by_cases h:i=j
 ·subst h;rw[if_pos rfl,if_pos (by simpa using hi),List.getElem?_map,List.getElem?_range hi];simp
 ·rw[if_neg h,List.getElem?_map,List.getElem?_map];by_cases hj:j<n
  ·rw[List.getElem?_range hj];simp only[Option.map_some];have:(j<i+1)↔(j<i):=by omega
   simp[this]
  ·rw[List.getElem?_eq_none (by simpa using hj)];rfl
theorem A4i {f:Nat→UInt8} {n:Nat}:Fm f n 0=z8 n:=by
 apply List.ext_getElem?;intro j;unfold Fm z8;rw[List.getElem?_map,List.getElem?_replicate];by_cases hj:j<n
 ·rw[List.getElem?_range hj,if_pos hj];rfl
 ·rw[List.getElem?_eq_none (by simpa using hj),if_neg hj];rfl
def C1a (ws:List UInt64) (j:Nat):UInt8:=(E8 ws (j / 8) >>> UInt64.ofNat (8*(j % 8))).toUInt8
def Yb (ws:List UInt64) (n:Nat):List UInt8:=Fm (C1a ws) n n
@[simp, go_sem] theorem Mu (ws : List UInt64) (n : Nat) : (Yb ws n).length = n := El _ _ _
def hq (b:List UInt64):Nat→UInt64
 | 0=>(E8 b 0+19) >>> (51:UInt64)
 | i+1=>(E8 b (i+1)+hq b i) >>> (51:UInt64)
def hs (b:List UInt64):Nat→List UInt64
 | 0=>b.set 0 (E8 b 0+19*hq b 4)
 | i+1=>((hs b i).set (i+1) (E8 (hs b i) (i+1)+E8 (hs b i) i >>> (51:UInt64))).set i (E8 (hs b i) i &&& (2251799813685247:UInt64))
def F2h (b:List UInt64):List UInt64:=(hs b 4).set 4 (E8 (hs b 4) 4 &&& (2251799813685247:UInt64))
def B7c (c:List UInt64):List UInt64:=[E8 c 0 ||| E8 c 1 <<< (51:UInt64),E8 c 1 >>> (13:UInt64) ||| E8 c 2 <<< (38:UInt64),E8 c 2 >>> (26:UInt64) ||| E8 c 3 <<< (25:UInt64),E8 c 3 >>> (39:UInt64) ||| E8 c 4 <<< (12:UInt64)]
@[simp, go_sem] theorem D2s (c : List UInt64) : (B7c c).length = 4 := rfl
def M7 (a:List UInt64):List UInt8:=Yb (B7c (F2h (Ez (Ez a)))) 32
@[simp, go_sem] theorem Z1 (a : List UInt64) : (M7 a).length = 32 := Mu _ _
theorem E0k (w x y z:UInt64):Yb [w,x,y,z] 32=[w,x,y,z].flatMap fun x=>(List.range 8).map fun s=>(x >>> UInt64.ofNat (s*8)).toUInt8:=rfl
set_option maxRecDepth 100000
set_option maxHeartbeats 2000000
theorem Gl (a:List UInt64) (ha:a.length=5) (w:World):Calls Tryz.prog 123 #[F8 a] w fun e w'=>e=.returned (A8 (M7 a))∧Below w.heap.size w w':=by
 obtain⟨b,hb⟩:∃b,b=Ez a:=⟨_,rfl⟩;obtain⟨c,hc⟩:∃c,c=Ez b:=⟨_,rfl⟩;have k1:∀W,Calls Tryz.prog 176 #[F8 a] W fun e w'=>e=.returned (F8 b)∧Below W.heap.size W w':=by rw[hb];exact Ff a ha
 have h1:b.length=5:=by rw[hb];rfl
 have k2:∀W,Calls Tryz.prog 176 #[F8 b] W fun e w'=>e=.returned (F8 c)∧Below W.heap.size W w':=by rw[hc];exact Ff b h1
 have h2:c.length=5:=by rw[hc];rfl
 unfold M7;rw[←hb,←hc];clear hb hc;obtain⟨a0,a1,a2,a3,a4,rfl⟩:=ex5 a ha;obtain⟨b0,b1,b2,b3,b4,rfl⟩:=ex5 b h1;obtain⟨c0,c1,c2,c3,c4,rfl⟩:=ex5 c h2;let L:UInt64:=2251799813685247
 let q0:=(c0+19) >>> 51
 let q1:=(c1+q0) >>> 51
 let q2:=(c2+q1) >>> 51
 let q3:=(c3+q2) >>> 51
 let q4:=(c4+q3) >>> 51
 let d0:=c0+19*q4
 let d1:=c1+d0 >>> 51
 let d2:=c2+d1 >>> 51
 let d3:=c3+d2 >>> 51
 let d4:=c4+d3 >>> 51
 have hw:B7c (F2h [c0,c1,c2,c3,c4])=[d0 &&& L ||| (d1 &&& L) <<< 51,(d1 &&& L) >>> 13 ||| (d2 &&& L) <<< 38,(d2 &&& L) >>> 26 ||| (d3 &&& L) <<< 25,(d3 &&& L) >>> 39 ||| (d4 &&& L) <<< 12]:=rfl;rw[hw,E0k];exact H7 (g:=gE) 100 (avs [a0,a1,a2,a3,a4]) ([dE5 k1,dE5 k2]++([(c0,19),(c1,q0),(c2,q1),(c3,q2),(c4,q3)].flatMap fun (x:UInt64×UInt64)=>[Xj x.1 x.2,Ek (x.1+x.2) .u64 51 (by decide)])++[Ux 19 q4,Xj c0 (19*q4)] ++
  ([(d0,c1),(d1,c2),(d2,c3),(d3,c4)].flatMap fun (x:UInt64×UInt64)=>[Ek x.1 .u64 51 (by decide),Xj x.2 (x.1 >>> 51),Dm x.1 L])++[Dm d4 L] ++
  [Nv (d1 &&& L) .u64 51 (by decide),Xe (d0 &&& L) ((d1 &&& L) <<< 51),Ek (d1 &&& L) .u64 13 (by decide),Nv (d2 &&& L) .u64 38 (by decide),Xe ((d1 &&& L) >>> 13) ((d2 &&& L) <<< 38),Ek (d2 &&& L) .u64 26 (by decide),Nv (d3 &&& L) .u64 25 (by decide),Xe ((d2 &&& L) >>> 26) ((d3 &&& L) <<< 25),Ek (d3 &&& L) .u64 39 (by decide),Nv (d4 &&& L) .u64 12 (by decide),Xe ((d3 &&& L) >>> 39) ((d4 &&& L) <<< 12)] ++
  [d0 &&& L ||| (d1 &&& L) <<< 51,(d1 &&& L) >>> 13 ||| (d2 &&& L) <<< 38,(d2 &&& L) >>> 26 ||| (d3 &&& L) <<< 25,(d3 &&& L) >>> 39 ||| (d4 &&& L) <<< 12].flatMap fun x=>(List.range 8).flatMap fun s=>[Ek x .u64 (s % 8*8) (by omega),F6b (x >>> UInt64.ofNat (s*8))]) F9 Tryz.func123 (by kernel_rfl)
def A1u (a:List UInt64):Bool:=g8 (M7 a) 0 &&& 1==1
theorem Ji (a:List UInt64) (ha:a.length=5) (w:World):Calls Tryz.prog 124 #[F8 a] w fun e w'=>e=.returned (.bool (A1u a))∧Below w.heap.size w w':=by
 have k:=Gl a ha;have hl:(M7 a).length=32:=Z1 a;unfold A1u;obtain⟨h,hh⟩:∃h,h=M7 a:=⟨_,rfl⟩;rw[←hh]at k hl ⊢;clear hh;obtain⟨a0,a1,a2,a3,a4,rfl⟩:=ex5 a ha;exact H7 (g:=E0q) 100 (avs [a0,a1,a2,a3,a4]) [E8d k hl,C3s (g8 h 0) 1,D5x (g8 h 0 &&& 1) 1 rfl] F9 Tryz.func124 (by kernel_rfl)
end
section
def wl (b:List UInt8) (n:Nat):Nat→List UInt64
 | 0=>J7 n
 | i+1=>(wl b n i).set (i / 8) (E8 (wl b n i) (i / 8) ||| (g8 b i).toUInt64 <<< UInt64.ofNat (8*(i % 8)))
@[simp] theorem C2d (b : List UInt8) (n : Nat) : ∀ i, (wl b n i).length = n
 | 0=>by simp[wl]
 | i+1=>by simp[wl,C2d b n i]
def B7k (ws:List UInt64):List UInt64:=[E8 ws 0 &&& (2251799813685247:UInt64),(E8 ws 0 >>> (51:UInt64) ||| E8 ws 1 <<< (13:UInt64)) &&& (2251799813685247:UInt64),(E8 ws 1 >>> (38:UInt64) ||| E8 ws 2 <<< (26:UInt64)) &&& (2251799813685247:UInt64),(E8 ws 2 >>> (25:UInt64) ||| E8 ws 3 <<< (39:UInt64)) &&& (2251799813685247:UInt64),E8 ws 3 >>> (12:UInt64) &&& (2251799813685247:UInt64)]
@[simp, go_sem] theorem B3f (ws : List UInt64) : (B7k ws).length = 5 := rfl
def Lp (b:List UInt8):Bool:=!((E8 (wl b 4 32) 3 >>> (63:UInt64) != 0)||(M7 (B7k (wl b 4 32)) != b))
def P5 (b:List UInt8):List UInt64:=if Lp b then B7k (wl b 4 32) else J7 5
theorem I4 (b:List UInt8):(P5 b).length=5:=by unfold P5;split<;>simp
def Jk:List UInt64:=[1718705420411056,234908883556509,2233514472574048,2117202627021982,765476049583133]
@[simp, go_sem] theorem C5b : Jk.length = 5 := rfl
set_option maxRecDepth 100000
theorem A6m (w:World):Calls Tryz.prog 215 #[] w fun e w'=>e=.returned (F8 Jk)∧Below w.heap.size w w':=H7 (g:=gE) 100 [] [] F9 Tryz.func215 (by kernel_rfl)
def F6a (f:Nat→UInt8) (k:Nat) (a:UInt64) (s:Nat):UInt64:=a ||| (f (8*k+s)).toUInt64 <<< UInt64.ofNat (8*s)
def w8 (f:Nat→UInt8) (k:Nat):UInt64:=(List.range 8).foldl (F6a f k) 0
def wIt {w:World} (f:Nat→UInt8) (k:Nat):UInt64→List Nat→DL w
 | _,[]=>[]
 | a,s::l=>F0g (f (8*k+s))::(Nv (f (8*k+s)).toUInt64 .u64 (8*(s % 8)) (by omega)::(Xe a ((f (8*k+s)).toUInt64 <<< UInt64.ofNat (8*s))::wIt f k (a ||| (f (8*k+s)).toUInt64 <<< UInt64.ofNat (8*s)) l))
theorem F8b (f:Nat→UInt8):wl ((List.range 32).map f) 4 32=[w8 f 0,w8 f 1,w8 f 2,w8 f 3]:=by kernel_rfl
theorem E9l (w x y z:UInt64):B7k [w,x,y,z]=[w &&& 2251799813685247,(w >>> 51 ||| x <<< 13) &&& 2251799813685247,(x >>> 38 ||| y <<< 26) &&& 2251799813685247,(y >>> 25 ||| z <<< 39) &&& 2251799813685247,z >>> 12 &&& 2251799813685247]:=rfl
theorem A9h (b:List UInt8) (hb:b.length=32) (w:World):Calls Tryz.prog 167 #[A8 b] w fun e w'=>e=.returned (.tuple #[F8 (P5 b),.bool (Lp b)])∧Below w.heap.size w w':=by
 have hm:=A7x hb;have hw:=F8b (g8 b);rw[show (List.range 32).map (g8 b)=b from hm]at hw;have k:=Gl (B7k (wl b 4 32)) (B3f _);have hl:=Z1 (B7k (wl b 4 32));unfold P5 Lp;obtain⟨h,hh⟩:∃h,h=M7 (B7k (wl b 4 32)):=⟨_,rfl⟩;rw[←hh]at k hl ⊢;clear hh;rw[hw,E9l]at k ⊢;clear hw;let x:=w8 (g8 b)
 let L:UInt64:=2251799813685247
 let D:DL w:=((List.range 4).flatMap fun k=>wIt (g8 b) k 0 (List.range 8)) ++
  [Dm (x 0) L,Ek (x 0) .u64 51 (by decide),Nv (x 1) .u64 13 (by decide),Xe (x 0 >>> 51) (x 1 <<< 13),Dm (x 0 >>> 51 ||| x 1 <<< 13) L,Ek (x 1) .u64 38 (by decide),Nv (x 2) .u64 26 (by decide),Xe (x 1 >>> 38) (x 2 <<< 26),Dm (x 1 >>> 38 ||| x 2 <<< 26) L,
   Ek (x 2) .u64 25 (by decide),Nv (x 3) .u64 39 (by decide),Xe (x 2 >>> 25) (x 3 <<< 39),Dm (x 2 >>> 25 ||| x 3 <<< 39) L,Ek (x 3) .u64 12 (by decide),Dm (x 3 >>> 12) L,Ek (x 3) .u64 63 (by decide)]
 obtain⟨b1,e1⟩:∃b1,(x 3 >>> (63:UInt64) != 0)=b1:=⟨_,rfl⟩;obtain⟨b2,e2⟩:∃b2,(h != b)=b2:=⟨_,rfl⟩;rw[show E8 [w8 (g8 b) 0,w8 (g8 b) 1,w8 (g8 b) 2,w8 (g8 b) 3] 3=x 3 from rfl,e1,e2,show A8 b=A8 (m32 b) by rw[hm]];cases b1 with
 | true=>exact H7 (g:=E0q) 200 (avm b) (D++[D8j (x 3 >>> 63) 0 e1]) F9 Tryz.func167 (by kernel_rfl)
 | false=>cases b2<;>exact H7 (g:=E0q) 200 (avm b) (D++[D8j (x 3 >>> 63) 0 e1,E8d k hl,E8n h b hl hb e2]) F9 Tryz.func167 (by kernel_rfl)
end
section
section
variable (w : World) (ρ : Operand → Value) (dst : Option Tmp) (ty : TypeId) (pos : String) (after : Array Edge) (guard : Option (Nat × Bool))
@[go_sem ↓ high] theorem E7n (x ix : Operand) :
 (execOp ρ { dst,op:=.index 214 x ix,type:=ty,pos,after,guard }).run Tryz.prog w=A1c 4 w (F2 Tryz.prog ρ { dst,op:=.index 214 x ix,type:=ty,pos,after,guard } w) (ρ x) (ρ ix):=
 Kg w ρ dst ty pos after guard 214 _ 4 x ix Tryz.underlying214 (by kernel_rfl) (by kernel_rfl)
end
def Iw:List UInt64:=[6346243789798364141,1503914060200516822,0,1152921504606846976]
@[simp, go_sem] theorem B1r : Iw.length = 4 := rfl
attribute [irreducible] Iw
theorem C3y (w:World):Calls Tryz.prog 208 #[] w fun e w'=>e=.returned (F8 Iw)∧Below w.heap.size w w':=by
 obtain⟨W0,aA⟩:∃z,z=w.alloc (Obj.cells (E4 (J7 4)).toArray 214):=⟨_,rfl⟩;have B0:Below w.heap.size w W0:=by rw[aA];exact (Below.refl _ _).alloc (Nat.le_refl _) _
 have R0:Bk W0 w.heap.size 214 (E4 (J7 4)):=by rw[aA];exact Bk.new w _ _
 have aB:E7 W0 ⟨w.heap.size,0,none⟩ 4=true:=R0.can (by simp);rw[aA]at aB;have e0:Y8 (.int .u64 6346243789798364141)=some 6346243789798364141:=Js 6346243789798364141;have e1:Y8 (.int .u64 1503914060200516822)=some 1503914060200516822:=Js 1503914060200516822;have e2:Y8 (.int .u64 0)=some 0:=Js 0;have e3:Y8 (.int .u64 1152921504606846976)=some 1152921504606846976:=Js 1152921504606846976;have aC:∀(W:World) (raw:Result Next),Um W raw (.int .u64 6346243789798364141) (.int .u64 1503914060200516822) (.int .u64 0) (.int .u64 1152921504606846976)=.ok (.value (F8 Iw)) W:=fun W raw=>by
  unfold Um Iw;rw[e0,e1,e2,e3]
 clear e0 e1 e2 e3;have hm:Iw.length=4:=B1r;go_enter Tryz.func208,Tryz.ntmps208;go_wp2_with fail;rw[←aA];refine bodyPost_ret (C7 rfl _ _ _ _ _ _ rfl (R0.puts (vs:=E4 Iw) (by simp)) Tryz.underlying214 rfl (by simp[Sr])) rfl ⟨rfl,C0 B0 (Nat.le_refl _) _⟩
def B2r (w l:List UInt64):Nat→UInt64
 | 0=>0
 | i+1=>C2h (E8 w i) (E8 l i) (B2r w l i)
def C1z (w l:List UInt64) (j:Nat):UInt64:=C2l (E8 w j) (E8 l j) (B2r w l j)
def D7v (w l:List UInt64):List UInt64:=Hv (C1z w l) (fun _=>0) 4 4
@[simp, go_sem] theorem D7a (w l : List UInt64) : (D7v w l).length = 4 := Nb _ _ _ _
theorem D5o (w l:List UInt64):∀i,(B2r w l i).toNat≤1
 | 0=>by show (0:UInt64).toNat≤1;decide
 | i+1=>D5i _ _ _
def Q7 (w:List UInt64):List UInt64:=if B2r w Iw 4=1 then w else D7v w Iw
theorem Bs {w:List UInt64} (hw:w.length=4):(Q7 w).length=4:=by unfold Q7;split<;>simp[hw]
theorem Nd (x:List UInt64) (hx:x.length=4) (w:World):Calls Tryz.prog 180 #[F8 x] w fun e w'=>e=.returned (F8 (Q7 x))∧Below w.heap.size w w':=by
 obtain⟨W0,aB⟩:∃z,z=((w.alloc (Obj.cells (E4 x).toArray 214)).alloc (Obj.cells (E4 (J7 4)).toArray 214)).alloc (Obj.cells (E4 (J7 4)).toArray 214):=⟨_,rfl⟩;have hL:W0=Q6 w [(214,E4 x),(214,E4 (J7 4)),(214,E4 (J7 4))]:=aB;have B0:Below w.heap.size w W0:=by rw[hL];exact H6 _ _
 have A0:Bk W0 w.heap.size 214 (E4 x):=by rw[hL];exact E0 _ w 0 _ _ rfl
 have R0:Bk W0 (w.heap.size+1) 214 (E4 (J7 4)):=by rw[hL];exact E0 _ w 1 _ _ rfl
 have D0:Bk W0 (w.heap.size+2) 214 (E4 (J7 4)):=by rw[hL];exact E0 _ w 2 _ _ rfl
 clear hL;go_enter Tryz.func180,Tryz.ntmps180;go_wp2_with fail;rw[←aB];clear aB;refine (C3y W0).mono ?_;rintro e w1 ⟨rfl,b1⟩;have A1:=A0.below b1 A0.lt;have R1:=R0.below b1 R0.lt;have D1:=D0.below b1 D0.lt;have B1:=C1 B0 b1 B0.size;clear A0 R0 D0 B0 b1;go_wp2_with fail;rw[←B5u (f:=C1z x Iw)]at D1;go_loopw [8,4] (fun t q wr=>∃i:Nat,i≤4∧t=.int .i64 (i:Int)∧q=.int .u64 (C8 (B2r x Iw i))∧Bk wr w.heap.size 214 (E4 x)∧Bk wr (w.heap.size+1) 214 (E4 (J7 4))∧Bk wr (w.heap.size+2) 214 (E4 (Hv (C1z x Iw) (fun _=>0) 4 i))∧Below w.heap.size w wr) (fun t _ _=>4-(intOf t).toNat)
 case atStart=>exact ⟨0,by omega,rfl,rfl,A1,R1,D1,B1⟩
 case round=>
  clear A1 R1 D1 B1;obtain⟨i,hi,rfl,rfl,K,R,D,B⟩:=hrel;by_cases hlt:i<4
  ·have k0:=K.at_ (P4 (l:=x) (i:=i) (by omega));have f0:=D.frozen i;have aE:=D5o x Iw i;have D3:=D.set_ i (.int .u64 (C8 (C2l (E8 x i) (E8 Iw i) (B2r x Iw i))));rw[Ex,A1g (f:=C1z x Iw) (g:=fun _=>0) (x:=C2l (E8 x i) (E8 Iw i) (B2r x Iw i)) hlt rfl]at D3;have d0:=D.at_ (P4 (l:=Hv (C1z x Iw) (fun _=>0) 4 i) (i:=i) (by simpa using hlt));clear D;go_wp2_with fail;go_roundw;case rel=>exact ⟨i+1,by omega,by go_num,rfl,K.far (by show w.heap.size≠w.heap.size+2;omega) _,R.far (by simp) _,D3,B.setCell (by show w.heap.size≤w.heap.size+2;omega) _⟩
   case measure=>simp[intOf];omega
  ·obtain rfl:i=4:=by omega
   have e5:((4:Nat):Int)=4:=rfl;rw[e5];clear e5;have rk:=K.row64 (n:=4) hx;have rd:=D.row64 (n:=4) (by simp);have rc:E7 wr ⟨w.heap.size+1,0,none⟩ 4=true:=R.can (by simp);obtain⟨dd,aA⟩:∃d,d=Hv (C1z x Iw) (fun _=>0) 4 4:=⟨_,rfl⟩;have aD:dd.length=4:=by rw[aA];simp
   obtain⟨bb,aC⟩:∃b,b=B2r x Iw 4:=⟨_,rfl⟩;have he:Q7 x=if bb=1 then x else dd:=by rw[aC,aA];rfl
   rw[←aA]at rd D;rw[←aC];clear aA aC;have h1:(C8 bb==1)=true→Q7 x=x:=fun h=>by
    rw[he,if_pos];have e1:C8 1=1:=rfl;exact A6f (by rw[e1];exact eq_of_beq h)
   have h2:(C8 bb==1)=false→Q7 x=dd:=fun h=>by
    rw[he,if_neg];intro e;rw[e]at h;exact absurd h (by decide)
   clear he;go_wp2_with fail
   ·have hb:(C8 bb==1)=true:=by first | assumption | simpa using ‹_›
    refine bodyPost_ret (C7 rfl _ _ _ _ _ _ rfl (R.puts (vs:=E4 x) (by simp[hx])) Tryz.underlying214 rfl (by simp[Sr,hx])) rfl ⟨by rw[h1 hb];rfl,C0 B (by simp) _⟩
   ·have hb:(C8 bb==1)=false:=by first | assumption | simpa using ‹_›
    refine bodyPost_ret (C7 rfl _ _ _ _ _ _ rfl (R.puts (vs:=E4 dd) (by simp[aD])) Tryz.underlying214 rfl (by simp[Sr,aD])) rfl ⟨by rw[h2 hb];rfl,C0 B (by simp) _⟩
end
def Bt (a:List UInt64):List UInt8:=Yb a 32
@[simp, go_sem] theorem Z2 (a : List UInt64) : (Bt a).length = 32 := Mu _ _
theorem Pb (a:List UInt64) (ha:a.length=4) (w:World):Calls Tryz.prog 131 #[F8 a] w fun e w'=>e=.returned (A8 (Bt a))∧Below w.heap.size w w':=by
 obtain⟨W0,aA⟩:∃z,z=((w.alloc (Obj.cells (E4 a).toArray 216)).alloc (Obj.cells (c8 (z8 32)).toArray 35)).alloc (Obj.cells (c8 (z8 32)).toArray 35):=⟨_,rfl⟩;have hL:W0=Q6 w [(216,E4 a),(35,c8 (z8 32)),(35,c8 (z8 32))]:=aA;have B0:Below w.heap.size w W0:=by rw[hL];exact H6 _ _
 have D0:Bk W0 w.heap.size 216 (E4 a):=by rw[hL];exact E0 _ w 0 _ _ rfl
 have R0:Bk W0 (w.heap.size+1) 35 (c8 (z8 32)):=by rw[hL];exact E0 _ w 1 _ _ rfl
 have O0:Bk W0 (w.heap.size+2) 35 (c8 (z8 32)):=by rw[hL];exact E0 _ w 2 _ _ rfl
 clear hL;go_enter Tryz.func131,Tryz.ntmps131;go_wp2_with fail;rw[←aA];clear aA;rw[←A4i (f:=C1a a)]at O0;go_loopw [5] (fun t wr=>∃i:Nat,i≤32∧t=.int .i64 (i:Int)∧Bk wr w.heap.size 216 (E4 a)∧Bk wr (w.heap.size+2) 35 (c8 (Fm (C1a a) 32 i))∧Bk wr (w.heap.size+1) 35 (c8 (z8 32))∧Below w.heap.size w wr) (fun t _=>32-(intOf t).toNat)
 case atStart=>exact ⟨0,by omega,rfl,D0,O0,R0,B0⟩
 case round=>
  clear D0 O0 R0 B0;obtain⟨i,hi,rfl,D,O,R,B⟩:=hrel;by_cases hlt:i<32
  ·have aE:(i:Int) / 8=((i / 8:Nat):Int):=by omega
   have aF:(i:Int) % 8=((i % 8:Nat):Int):=by omega
   have hx:C1a a i=(E8 a (i / 8) >>> UInt64.ofNat (8*(i % 8))).toUInt8:=rfl;have d0:=D.at_ (P4 (l:=a) (i:=i / 8) (by omega));have o0:=O.at_ (Jo (l:=Fm (C1a a) 32 i) (i:=i) (by simpa using hlt));have f0:=O.frozen i;have aG:i / 8<4:=by omega
   have aH:i % 8<8:=by omega
   have HX:=Lib.hid hx;have O3:=O.set_ i (.int .u8 (n8 (E8 a (i / 8) >>> UInt64.ofNat (8*(i % 8))).toUInt8));rw[Kj,B9d (f:=C1a a) hlt HX.out.symm]at O3;clear hx;generalize i / 8=qq at *;generalize i % 8=rr at *;obtain⟨ss,aB⟩:∃s,s=8*rr:=⟨_,rfl⟩;have h8:8*(rr:Int)=(ss:Int):=by omega
   have aC:ss<64:=by omega
   rw[←aB]at O3;clear HX aB;go_wp2_with fail;go_roundw;case rel=>exact ⟨i+1,by omega,by go_num,D.far (by show w.heap.size≠w.heap.size+2;omega) _,O3,R.far (by show w.heap.size+1≠w.heap.size+2;omega) _,B.setCell (by show w.heap.size≤w.heap.size+2;omega) _⟩
   case measure=>simp[intOf];omega
  ·obtain rfl:i=32:=by omega
   have hO:Bk wr (w.heap.size+2) 35 (c8 (Bt a)):=O;have ro:=hO.row8 (n:=32) (by simp);have aD:E7 wr ⟨w.heap.size+1,0,none⟩ 32=true:=R.can (by simp);have e5:((32:Nat):Int)=32:=rfl;rw[e5];clear e5 O hO D;go_wp2_with fail;refine bodyPost_ret (C7 rfl _ _ _ _ _ _ rfl (R.puts (vs:=c8 (Bt a)) (by simp)) Tryz.underlying35 rfl (by simp[I8])) rfl ⟨rfl,C0 B (by simp) _⟩
end Go.Proofs.YtdfpoofbgjilgaaGreat
