/- A part of the proof of AuditBatch. -/
import Derived.Test.YtdfpoofbgjilgaaGreatUam
set_option linter.unusedVariables false
set_option linter.unusedSimpArgs false
set_option maxRecDepth 100000
set_option maxHeartbeats 40000000
namespace Go.Proofs.YtdfpoofbgjilgaaGreat
open Go Go.RowKit Sh
section
def F3j (a b:List UInt64) (j:Nat):UInt64:=E7 a j+E7 b j
def E5o (a b:List UInt64) (j:Nat):UInt64:=E7 a j+(9007199254740988-E7 b j)
def D7r (a b:List UInt64):List UInt64:=Hb (F3j a b) (E7 a) 5 5
def D8h (a b:List UInt64):List UInt64:=(Hb (E5o a b) (E7 a) 5 5).set 0 (E5o a b 0-72)
def Ex (a b:List UInt64):List UInt64:=Gg (D7r a b)
def Fm (a b:List UInt64):List UInt64:=Gg (D8h a b)
def Ap (v:UInt64):List UInt64:=[v &&& 2251799813685247,v >>> 51,0,0,0]
def Du:Nat→List UInt64→List UInt64
 | 0,a=>a
 | n+1,a=>fsq (Du n a)
@[simp, go_sem] theorem Xr {a : List UInt64} (ha : a.length = 5) : ∀ n, (Du n a).length = 5
 | 0=>ha
 | _+1=>rfl
set_option maxRecDepth 100000
theorem Cv (a b:List UInt64) (ha:a.length=5) (hb:b.length=5) (w:World):Calls Tryz.prog 169 #[J0 a,J0 b] w fun e w'=>e=.returned (J0 (Ex a b))∧Below w.heap.size w w':=by
 revert a;refine A7x fun a0 a1 a2 a3 a4=>?_;revert b;refine A7x fun b0 b1 b2 b3 b4=>?_;let a:=[a0,a1,a2,a3,a4]
 let b:=[b0,b1,b2,b3,b4]
 exact F8 (g:=gE) 100 (avs a++avs b) (((List.range 5).map fun i=>Ya (E7 a i) (E7 b i))++[dE5 (Fu (D7r a b) rfl)]) F2 Tryz.func169 (by kernel_rfl)
theorem Bj (a b:List UInt64) (ha:a.length=5) (hb:b.length=5) (w:World):Calls Tryz.prog 170 #[J0 a,J0 b] w fun e w'=>e=.returned (J0 (Fm a b))∧Below w.heap.size w w':=by
 revert a;refine A7x fun a0 a1 a2 a3 a4=>?_;revert b;refine A7x fun b0 b1 b2 b3 b4=>?_;let a:=[a0,a1,a2,a3,a4]
 let b:=[b0,b1,b2,b3,b4]
 let M:UInt64:=9007199254740988
 exact F8 (g:=gE) 100 (avs a++avs b) (((List.range 5).flatMap fun i=>[E2z M (E7 b i),Ya (E7 a i) (M-E7 b i)])++[E2z (a0+(M-b0)) 72,dE5 (Fu (D8h a b) rfl)]) F2 Tryz.func170 (by kernel_rfl)
theorem Gn (v:UInt64) (w:World):Calls Tryz.prog 166 #[.int .u64 (H6 v)] w fun e w'=>e=.returned (J0 (Ap v))∧Below w.heap.size w w':=F8 (g:=gE) 100 (avs [v]) [Dx v 2251799813685247,Ey v .u64 51 (by decide)] F2 Tryz.func166 (by kernel_rfl)
theorem Mi (a:List UInt64) (ha:a.length=5) (n:Nat) (hn:n≤1000000) (w:World):Calls Tryz.prog 172 #[J0 a,.int .i64 (n:Int)] w fun e w'=>e=.returned (J0 (Du n a))∧Below w.heap.size w w':=by
 obtain⟨W0,aA⟩:∃z,z=(w.alloc (Obj.cells (E6 a).toArray 158)).alloc (Obj.cells (E6 (O8 5)).toArray 158):=⟨_,rfl⟩;have hL:W0=Y6 w [(158,E6 a),(158,E6 (O8 5))]:=aA;have B0:Below w.heap.size w W0:=by rw[hL];exact N7 _ _
 have A0:Bk W0 w.heap.size 158 (E6 a):=by rw[hL];exact H7 _ w 0 _ _ rfl
 have R0:Bk W0 (w.heap.size+1) 158 (E6 (O8 5)):=by rw[hL];exact H7 _ w 1 _ _ rfl
 clear hL;go_enter Tryz.func172,Tryz.ntmps172;go_wp2_with fail;rw[←aA];clear aA;go_loopw [6] (fun t wr=>∃i:Nat,i≤n∧t=.int .i64 (i:Int)∧Bk wr w.heap.size 158 (E6 (Du i a))∧Bk wr (w.heap.size+1) 158 (E6 (O8 5))∧Below w.heap.size w wr) (fun t _=>n-(intOf t).toNat)
 case atStart=>exact ⟨0,by omega,rfl,A0,R0,B0⟩
 case round=>
  clear A0 R0 B0;obtain⟨i,hi,rfl,K,R,B⟩:=hrel;have hl:=Xr ha i;have rk:=K.row64 hl;by_cases hlt:i<n
  ·go_wp2_with fail;refine (Yg (Du i a) hl wr).mono ?_;rintro e w1 ⟨rfl,b1⟩;have K1:=K.below b1 K.lt;have R1:=R.below b1 R.lt;have B1:=C0 B b1 B.size;have aB:E4 w1 ⟨w.heap.size,0,none⟩ 5=true:=K1.can (by simp[hl]);go_wp2_with fail;go_roundw;case rel=>exact ⟨i+1,by omega,by go_num,K1.puts (by simp[hl]),R1.putFar (by simp) _,C1 B1 (by simp) _⟩
   case measure=>simp[intOf];omega
  ·obtain rfl:i=n:=by omega
   have aB:E4 wr ⟨w.heap.size+1,0,none⟩ 5=true:=R.can (by simp);go_wp2_with fail;refine bodyPost_ret (C8 rfl _ _ _ _ _ _ rfl (R.puts (vs:=E6 (Du i a)) (by simp[hl])) Vy rfl (by simp[A6c,hl])) rfl ⟨rfl,C1 B (by simp) _⟩
end
theorem Bk.row8 {w:World} {g:Nat} {t:TypeId} {l:List UInt8} {n:Nat} (h:Bk w g t (c8 l)) (hl:l.length=n):C6 w ⟨g,0,none⟩ n=some (c8 l):=by have:=h.rows;rwa [C3,hl]at this
def A4e (a:List UInt64):List UInt64:=L6 (Du 2 (fsq a)) a
def Ix (a:List UInt64):List UInt64:=L6 (A4e a) (fsq a)
def f5 (a:List UInt64):List UInt64:=L6 (fsq (Ix a)) (A4e a)
def f10 (a:List UInt64):List UInt64:=L6 (Du 5 (f5 a)) (f5 a)
def f20 (a:List UInt64):List UInt64:=L6 (Du 10 (f10 a)) (f10 a)
def f50 (a:List UInt64):List UInt64:=L6 (Du 10 (L6 (Du 20 (f20 a)) (f20 a))) (f10 a)
def A8l (a:List UInt64):List UInt64:=L6 (Du 50 (f50 a)) (f50 a)
def Tm (a:List UInt64):List UInt64:=L6 (Du 50 (L6 (Du 100 (A8l a)) (A8l a))) (f50 a)
def Xt (a:List UInt64):List UInt64:=L6 (Du 5 (Tm a)) (Ix a)
section
def Fl (f:Nat→UInt8) (n i:Nat):List UInt8:=(List.range n).map fun j=>if j<i then f j else 0
@[simp, go_sem] theorem Fa (f : Nat → UInt8) (n i : Nat) : (Fl f n i).length = n := by simp [Fl]
theorem B9m {f:Nat→UInt8} {n i:Nat} (hi:i<n) {x:UInt8} (hx:x=f i):(Fl f n i).set i x=Fl f n (i+1):=by
 subst hx;apply List.ext_getElem?;intro j;unfold Fl;rw[List.getElem?_set];by_cases h:i=j
 ·subst h;rw[if_pos rfl,if_pos (by simpa using hi),List.getElem?_map,List.getElem?_range hi];simp
 ·rw[if_neg h,List.getElem?_map,List.getElem?_map];by_cases hj:j<n
  ·rw[List.getElem?_range hj];simp only[Option.map_some];have:(j<i+1)↔(j<i):=by omega
   simp[this]
  ·rw[List.getElem?_eq_none (by simpa using hj)];rfl
theorem A4k {f:Nat→UInt8} {n:Nat}:Fl f n 0=z8 n:=by
 apply List.ext_getElem?;intro j;unfold Fl z8;rw[List.getElem?_map,List.getElem?_replicate];by_cases hj:j<n
 ·rw[List.getElem?_range hj,if_pos hj];rfl
 ·rw[List.getElem?_eq_none (by simpa using hj),if_neg hj];rfl
def C1q (ws:List UInt64) (j:Nat):UInt8:=(E7 ws (j / 8) >>> UInt64.ofNat (8*(j % 8))).toUInt8
def Ys (ws:List UInt64) (n:Nat):List UInt8:=Fl (C1q ws) n n
@[simp, go_sem] theorem Oa (ws : List UInt64) (n : Nat) : (Ys ws n).length = n := Fa _ _ _
def hq (b:List UInt64):Nat→UInt64
 | 0=>(E7 b 0+19) >>> (51:UInt64)
 | i+1=>(E7 b (i+1)+hq b i) >>> (51:UInt64)
def hs (b:List UInt64):Nat→List UInt64
 | 0=>b.set 0 (E7 b 0+19*hq b 4)
 | i+1=>((hs b i).set (i+1) (E7 (hs b i) (i+1)+E7 (hs b i) i >>> (51:UInt64))).set i (E7 (hs b i) i &&& (2251799813685247:UInt64))
def E5a (b:List UInt64):List UInt64:=(hs b 4).set 4 (E7 (hs b 4) 4 &&& (2251799813685247:UInt64))
def C5r (c:List UInt64):List UInt64:=[E7 c 0 ||| E7 c 1 <<< (51:UInt64),E7 c 1 >>> (13:UInt64) ||| E7 c 2 <<< (38:UInt64),E7 c 2 >>> (26:UInt64) ||| E7 c 3 <<< (25:UInt64),E7 c 3 >>> (39:UInt64) ||| E7 c 4 <<< (12:UInt64)]
def N8 (a:List UInt64):List UInt8:=Ys (C5r (E5a (Gg (Gg a)))) 32
@[simp, go_sem] theorem Z3 (a : List UInt64) : (N8 a).length = 32 := Oa _ _
theorem D5x (w x y z:UInt64):Ys [w,x,y,z] 32=[w,x,y,z].flatMap fun x=>(List.range 8).map fun s=>(x >>> UInt64.ofNat (s*8)).toUInt8:=rfl
set_option maxRecDepth 100000
set_option maxHeartbeats 2000000
theorem Gk (a:List UInt64) (ha:a.length=5) (w:World):Calls Tryz.prog 123 #[J0 a] w fun e w'=>e=.returned (A8 (N8 a))∧Below w.heap.size w w':=by
 obtain⟨b,hb⟩:∃b,b=Gg a:=⟨_,rfl⟩;obtain⟨c,hc⟩:∃c,c=Gg b:=⟨_,rfl⟩;have k1:∀W,Calls Tryz.prog 176 #[J0 a] W fun e w'=>e=.returned (J0 b)∧Below W.heap.size W w':=by rw[hb];exact Fu a ha
 have h1:b.length=5:=by rw[hb];rfl
 have k2:∀W,Calls Tryz.prog 176 #[J0 b] W fun e w'=>e=.returned (J0 c)∧Below W.heap.size W w':=by rw[hc];exact Fu b h1
 have h2:c.length=5:=by rw[hc];rfl
 unfold N8;rw[←hb,←hc];clear hb hc;obtain⟨a0,a1,a2,a3,a4,rfl⟩:=ex5 a ha;obtain⟨b0,b1,b2,b3,b4,rfl⟩:=ex5 b h1;obtain⟨c0,c1,c2,c3,c4,rfl⟩:=ex5 c h2;let L:UInt64:=2251799813685247
 let q0:=(c0+19) >>> 51
 let q1:=(c1+q0) >>> 51
 let q2:=(c2+q1) >>> 51
 let q3:=(c3+q2) >>> 51
 let q4:=(c4+q3) >>> 51
 let d0:=c0+19*q4
 let d1:=c1+d0 >>> 51
 let d2:=c2+d1 >>> 51
 let d3:=c3+d2 >>> 51
 let d4:=c4+d3 >>> 51
 have hw:C5r (E5a [c0,c1,c2,c3,c4])=[d0 &&& L ||| (d1 &&& L) <<< 51,(d1 &&& L) >>> 13 ||| (d2 &&& L) <<< 38,(d2 &&& L) >>> 26 ||| (d3 &&& L) <<< 25,(d3 &&& L) >>> 39 ||| (d4 &&& L) <<< 12]:=rfl;rw[hw,D5x];exact F8 (g:=gE) 100 (avs [a0,a1,a2,a3,a4]) ([dE5 k1,dE5 k2]++([(c0,19),(c1,q0),(c2,q1),(c3,q2),(c4,q3)].flatMap fun (x:UInt64×UInt64)=>[Ya x.1 x.2,Ey (x.1+x.2) .u64 51 (by decide)])++[Uv 19 q4,Ya c0 (19*q4)] ++
  ([(d0,c1),(d1,c2),(d2,c3),(d3,c4)].flatMap fun (x:UInt64×UInt64)=>[Ey x.1 .u64 51 (by decide),Ya x.2 (x.1 >>> 51),Dx x.1 L])++[Dx d4 L] ++
  [Nk (d1 &&& L) .u64 51 (by decide),Xl (d0 &&& L) ((d1 &&& L) <<< 51),Ey (d1 &&& L) .u64 13 (by decide),Nk (d2 &&& L) .u64 38 (by decide),Xl ((d1 &&& L) >>> 13) ((d2 &&& L) <<< 38),Ey (d2 &&& L) .u64 26 (by decide),Nk (d3 &&& L) .u64 25 (by decide),Xl ((d2 &&& L) >>> 26) ((d3 &&& L) <<< 25),Ey (d3 &&& L) .u64 39 (by decide),Nk (d4 &&& L) .u64 12 (by decide),Xl ((d3 &&& L) >>> 39) ((d4 &&& L) <<< 12)] ++
  [d0 &&& L ||| (d1 &&& L) <<< 51,(d1 &&& L) >>> 13 ||| (d2 &&& L) <<< 38,(d2 &&& L) >>> 26 ||| (d3 &&& L) <<< 25,(d3 &&& L) >>> 39 ||| (d4 &&& L) <<< 12].flatMap fun x=>(List.range 8).flatMap fun s=>[Ey x .u64 (s % 8*8) (by omega),F3i (x >>> UInt64.ofNat (s*8))]) F2 Tryz.func123 (by kernel_rfl)
def A0o (a:List UInt64):Bool:=g8 (N8 a) 0 &&& 1==1
theorem Jl (a:List UInt64) (ha:a.length=5) (w:World):Calls Tryz.prog 124 #[J0 a] w fun e w'=>e=.returned (.bool (A0o a))∧Below w.heap.size w w':=by
 have k:=Gk a ha;have hl:(N8 a).length=32:=Z3 a;unfold A0o;obtain⟨h,hh⟩:∃h,h=N8 a:=⟨_,rfl⟩;rw[←hh]at k hl ⊢;clear hh;obtain⟨a0,a1,a2,a3,a4,rfl⟩:=ex5 a ha;exact F8 (g:=D7p) 100 (avs [a0,a1,a2,a3,a4]) [F0j k hl,C0q (g8 h 0) 1,D3y (g8 h 0 &&& 1) 1 rfl] F2 Tryz.func124 (by kernel_rfl)
end
section
def wl (b:List UInt8) (n:Nat):Nat→List UInt64
 | 0=>O8 n
 | i+1=>(wl b n i).set (i / 8) (E7 (wl b n i) (i / 8) ||| (g8 b i).toUInt64 <<< UInt64.ofNat (8*(i % 8)))
@[simp] theorem C1t (b : List UInt8) (n : Nat) : ∀ i, (wl b n i).length = n
 | 0=>by simp[wl]
 | i+1=>by simp[wl,C1t b n i]
def B6l (ws:List UInt64):List UInt64:=[E7 ws 0 &&& (2251799813685247:UInt64),(E7 ws 0 >>> (51:UInt64) ||| E7 ws 1 <<< (13:UInt64)) &&& (2251799813685247:UInt64),(E7 ws 1 >>> (38:UInt64) ||| E7 ws 2 <<< (26:UInt64)) &&& (2251799813685247:UInt64),(E7 ws 2 >>> (25:UInt64) ||| E7 ws 3 <<< (39:UInt64)) &&& (2251799813685247:UInt64),E7 ws 3 >>> (12:UInt64) &&& (2251799813685247:UInt64)]
@[simp, go_sem] theorem B2o (ws : List UInt64) : (B6l ws).length = 5 := rfl
def Ls (b:List UInt8):Bool:=!((E7 (wl b 4 32) 3 >>> (63:UInt64) != 0)||(N8 (B6l (wl b 4 32)) != b))
def Q3 (b:List UInt8):List UInt64:=if Ls b then B6l (wl b 4 32) else O8 5
theorem H8 (b:List UInt8):(Q3 b).length=5:=by unfold Q3;split<;>simp
def Nj:List UInt64:=[1718705420411056,234908883556509,2233514472574048,2117202627021982,765476049583133]
set_option maxRecDepth 100000
theorem A6i (w:World):Calls Tryz.prog 215 #[] w fun e w'=>e=.returned (J0 Nj)∧Below w.heap.size w w':=F8 (g:=gE) 100 [] [] F2 Tryz.func215 (by kernel_rfl)
def F3s (f:Nat→UInt8) (k:Nat) (a:UInt64) (s:Nat):UInt64:=a ||| (f (8*k+s)).toUInt64 <<< UInt64.ofNat (8*s)
def w8 (f:Nat→UInt8) (k:Nat):UInt64:=(List.range 8).foldl (F3s f k) 0
def wIt {w:World} (f:Nat→UInt8) (k:Nat):UInt64→List Nat→DL w
 | _,[]=>[]
 | a,s::l=>D9x (f (8*k+s))::(Nk (f (8*k+s)).toUInt64 .u64 (8*(s % 8)) (by omega)::(Xl a ((f (8*k+s)).toUInt64 <<< UInt64.ofNat (8*s))::wIt f k (a ||| (f (8*k+s)).toUInt64 <<< UInt64.ofNat (8*s)) l))
theorem F2j (f:Nat→UInt8):wl ((List.range 32).map f) 4 32=[w8 f 0,w8 f 1,w8 f 2,w8 f 3]:=by kernel_rfl
theorem D9w (w x y z:UInt64):B6l [w,x,y,z]=[w &&& 2251799813685247,(w >>> 51 ||| x <<< 13) &&& 2251799813685247,(x >>> 38 ||| y <<< 26) &&& 2251799813685247,(y >>> 25 ||| z <<< 39) &&& 2251799813685247,z >>> 12 &&& 2251799813685247]:=rfl
theorem B2x (b:List UInt8) (hb:b.length=32) (w:World):Calls Tryz.prog 167 #[A8 b] w fun e w'=>e=.returned (.tuple #[J0 (Q3 b),.bool (Ls b)])∧Below w.heap.size w w':=by
 have hm:=A6p hb;have hw:=F2j (g8 b);rw[show (List.range 32).map (g8 b)=b from hm]at hw;have k:=Gk (B6l (wl b 4 32)) (B2o _);have hl:=Z3 (B6l (wl b 4 32));unfold Q3 Ls;obtain⟨h,hh⟩:∃h,h=N8 (B6l (wl b 4 32)):=⟨_,rfl⟩;rw[←hh]at k hl ⊢;clear hh;rw[hw,D9w]at k ⊢;clear hw;let x:=w8 (g8 b)
 let L:UInt64:=2251799813685247
 let D:DL w:=((List.range 4).flatMap fun k=>wIt (g8 b) k 0 (List.range 8)) ++
  [Dx (x 0) L,Ey (x 0) .u64 51 (by decide),Nk (x 1) .u64 13 (by decide),Xl (x 0 >>> 51) (x 1 <<< 13),Dx (x 0 >>> 51 ||| x 1 <<< 13) L,Ey (x 1) .u64 38 (by decide),Nk (x 2) .u64 26 (by decide),Xl (x 1 >>> 38) (x 2 <<< 26),Dx (x 1 >>> 38 ||| x 2 <<< 26) L,
   Ey (x 2) .u64 25 (by decide),Nk (x 3) .u64 39 (by decide),Xl (x 2 >>> 25) (x 3 <<< 39),Dx (x 2 >>> 25 ||| x 3 <<< 39) L,Ey (x 3) .u64 12 (by decide),Dx (x 3 >>> 12) L,Ey (x 3) .u64 63 (by decide)]
 obtain⟨b1,e1⟩:∃b1,(x 3 >>> (63:UInt64) != 0)=b1:=⟨_,rfl⟩;obtain⟨b2,e2⟩:∃b2,(h != b)=b2:=⟨_,rfl⟩;rw[show E7 [w8 (g8 b) 0,w8 (g8 b) 1,w8 (g8 b) 2,w8 (g8 b) 3] 3=x 3 from rfl,e1,e2,show A8 b=A8 (m32 b) by rw[hm]];cases b1 with
 | true=>exact F8 (g:=D7p) 200 (avm b) (D++[D4k (x 3 >>> 63) 0 e1]) F2 Tryz.func167 (by kernel_rfl)
 | false=>cases b2<;>exact F8 (g:=D7p) 200 (avm b) (D++[D4k (x 3 >>> 63) 0 e1,F0j k hl,E1n h b hl hb e2]) F2 Tryz.func167 (by kernel_rfl)
end
section
section
variable (w : World) (ρ : Operand → Value) (dst : Option Tmp) (ty : TypeId) (pos : String) (after : Array Edge) (guard : Option (Nat × Bool))
@[go_sem ↓ high] theorem E8q (x ix : Operand) :
 (execOp ρ { dst,op:=.index 214 x ix,type:=ty,pos,after,guard }).run Tryz.prog w=A5o 4 w (P8 Tryz.prog ρ { dst,op:=.index 214 x ix,type:=ty,pos,after,guard } w) (ρ x) (ρ ix):=
 Tl w ρ dst ty pos after guard 214 _ 4 x ix Tryz.underlying214 (by kernel_rfl) (by kernel_rfl)
end
def Jf:List UInt64:=[6346243789798364141,1503914060200516822,0,1152921504606846976]
@[simp, go_sem] theorem A9e : Jf.length = 4 := rfl
attribute [irreducible] Jf
theorem C0u (w:World):Calls Tryz.prog 208 #[] w fun e w'=>e=.returned (J0 Jf)∧Below w.heap.size w w':=by
 obtain⟨W0,aA⟩:∃z,z=w.alloc (Obj.cells (E6 (O8 4)).toArray 214):=⟨_,rfl⟩;have B0:Below w.heap.size w W0:=by rw[aA];exact (Below.refl _ _).alloc (Nat.le_refl _) _
 have R0:Bk W0 w.heap.size 214 (E6 (O8 4)):=by rw[aA];exact Bk.new w _ _
 have aB:E4 W0 ⟨w.heap.size,0,none⟩ 4=true:=R0.can (by simp);rw[aA]at aB;have e0:Af (.int .u64 6346243789798364141)=some 6346243789798364141:=Oz 6346243789798364141;have e1:Af (.int .u64 1503914060200516822)=some 1503914060200516822:=Oz 1503914060200516822;have e2:Af (.int .u64 0)=some 0:=Oz 0;have e3:Af (.int .u64 1152921504606846976)=some 1152921504606846976:=Oz 1152921504606846976;have aC:∀(W:World) (raw:Result Next),Ut W raw (.int .u64 6346243789798364141) (.int .u64 1503914060200516822) (.int .u64 0) (.int .u64 1152921504606846976)=.ok (.value (J0 Jf)) W:=fun W raw=>by
  unfold Ut Jf;rw[e0,e1,e2,e3]
 clear e0 e1 e2 e3;have hm:Jf.length=4:=A9e;go_enter Tryz.func208,Tryz.ntmps208;go_wp2_with fail;rw[←aA];refine bodyPost_ret (C8 rfl _ _ _ _ _ _ rfl (R0.puts (vs:=E6 Jf) (by simp)) Tryz.underlying214 rfl (by simp[Ss])) rfl ⟨rfl,C1 B0 (Nat.le_refl _) _⟩
def B1h (w l:List UInt64):Nat→UInt64
 | 0=>0
 | i+1=>C2i (E7 w i) (E7 l i) (B1h w l i)
def C1m (w l:List UInt64) (j:Nat):UInt64:=C0l (E7 w j) (E7 l j) (B1h w l j)
def D4x (w l:List UInt64):List UInt64:=Hb (C1m w l) (fun _=>0) 4 4
@[simp, go_sem] theorem D2x (w l : List UInt64) : (D4x w l).length = 4 := Mu _ _ _ _
theorem D2p (w l:List UInt64):∀i,(B1h w l i).toNat≤1
 | 0=>by show (0:UInt64).toNat≤1;decide
 | i+1=>D2b _ _ _
def T8 (w:List UInt64):List UInt64:=if B1h w Jf 4=1 then w else D4x w Jf
theorem Ch {w:List UInt64} (hw:w.length=4):(T8 w).length=4:=by unfold T8;split<;>simp[hw]
theorem Ms (x:List UInt64) (hx:x.length=4) (w:World):Calls Tryz.prog 180 #[J0 x] w fun e w'=>e=.returned (J0 (T8 x))∧Below w.heap.size w w':=by
 obtain⟨W0,aB⟩:∃z,z=((w.alloc (Obj.cells (E6 x).toArray 214)).alloc (Obj.cells (E6 (O8 4)).toArray 214)).alloc (Obj.cells (E6 (O8 4)).toArray 214):=⟨_,rfl⟩;have hL:W0=Y6 w [(214,E6 x),(214,E6 (O8 4)),(214,E6 (O8 4))]:=aB;have B0:Below w.heap.size w W0:=by rw[hL];exact N7 _ _
 have A0:Bk W0 w.heap.size 214 (E6 x):=by rw[hL];exact H7 _ w 0 _ _ rfl
 have R0:Bk W0 (w.heap.size+1) 214 (E6 (O8 4)):=by rw[hL];exact H7 _ w 1 _ _ rfl
 have D0:Bk W0 (w.heap.size+2) 214 (E6 (O8 4)):=by rw[hL];exact H7 _ w 2 _ _ rfl
 clear hL;go_enter Tryz.func180,Tryz.ntmps180;go_wp2_with fail;rw[←aB];clear aB;refine (C0u W0).mono ?_;rintro e w1 ⟨rfl,b1⟩;have A1:=A0.below b1 A0.lt;have R1:=R0.below b1 R0.lt;have D1:=D0.below b1 D0.lt;have B1:=C0 B0 b1 B0.size;clear A0 R0 D0 B0 b1;go_wp2_with fail;rw[←B4h (f:=C1m x Jf)]at D1;go_loopw [8,4] (fun t q wr=>∃i:Nat,i≤4∧t=.int .i64 (i:Int)∧q=.int .u64 (H6 (B1h x Jf i))∧Bk wr w.heap.size 214 (E6 x)∧Bk wr (w.heap.size+1) 214 (E6 (O8 4))∧Bk wr (w.heap.size+2) 214 (E6 (Hb (C1m x Jf) (fun _=>0) 4 i))∧Below w.heap.size w wr) (fun t _ _=>4-(intOf t).toNat)
 case atStart=>exact ⟨0,by omega,rfl,rfl,A1,R1,D1,B1⟩
 case round=>
  clear A1 R1 D1 B1;obtain⟨i,hi,rfl,rfl,K,R,D,B⟩:=hrel;by_cases hlt:i<4
  ·have k0:=K.at_ (Q1 (l:=x) (i:=i) (by omega));have f0:=D.frozen i;have aE:=D2p x Jf i;have D3:=D.set_ i (.int .u64 (H6 (C0l (E7 x i) (E7 Jf i) (B1h x Jf i))));rw[Fd,A1p (f:=C1m x Jf) (g:=fun _=>0) (x:=C0l (E7 x i) (E7 Jf i) (B1h x Jf i)) hlt rfl]at D3;have d0:=D.at_ (Q1 (l:=Hb (C1m x Jf) (fun _=>0) 4 i) (i:=i) (by simpa using hlt));clear D;go_wp2_with fail;go_roundw;case rel=>exact ⟨i+1,by omega,by go_num,rfl,K.far (by show w.heap.size≠w.heap.size+2;omega) _,R.far (by simp) _,D3,B.setCell (by show w.heap.size≤w.heap.size+2;omega) _⟩
   case measure=>simp[intOf];omega
  ·obtain rfl:i=4:=by omega
   have e5:((4:Nat):Int)=4:=rfl;rw[e5];clear e5;have rk:=K.row64 (n:=4) hx;have rd:=D.row64 (n:=4) (by simp);have rc:E4 wr ⟨w.heap.size+1,0,none⟩ 4=true:=R.can (by simp);obtain⟨dd,aA⟩:∃d,d=Hb (C1m x Jf) (fun _=>0) 4 4:=⟨_,rfl⟩;have aD:dd.length=4:=by rw[aA];simp
   obtain⟨bb,aC⟩:∃b,b=B1h x Jf 4:=⟨_,rfl⟩;have he:T8 x=if bb=1 then x else dd:=by rw[aC,aA];rfl
   rw[←aA]at rd D;rw[←aC];clear aA aC;have h1:(H6 bb==1)=true→T8 x=x:=fun h=>by
    rw[he,if_pos];have e1:H6 1=1:=rfl;exact A6u (by rw[e1];exact eq_of_beq h)
   have h2:(H6 bb==1)=false→T8 x=dd:=fun h=>by
    rw[he,if_neg];intro e;rw[e]at h;exact absurd h (by decide)
   clear he;go_wp2_with fail
   ·have hb:(H6 bb==1)=true:=by first | assumption | simpa using ‹_›
    refine bodyPost_ret (C8 rfl _ _ _ _ _ _ rfl (R.puts (vs:=E6 x) (by simp[hx])) Tryz.underlying214 rfl (by simp[Ss,hx])) rfl ⟨by rw[h1 hb];rfl,C1 B (by simp) _⟩
   ·have hb:(H6 bb==1)=false:=by first | assumption | simpa using ‹_›
    refine bodyPost_ret (C8 rfl _ _ _ _ _ _ rfl (R.puts (vs:=E6 dd) (by simp[aD])) Tryz.underlying214 rfl (by simp[Ss,aD])) rfl ⟨by rw[h2 hb];rfl,C1 B (by simp) _⟩
end
def Cp (a:List UInt64):List UInt8:=Ys a 32
@[simp, go_sem] theorem Z4 (a : List UInt64) : (Cp a).length = 32 := Oa _ _
theorem Pf (a:List UInt64) (ha:a.length=4) (w:World):Calls Tryz.prog 131 #[J0 a] w fun e w'=>e=.returned (A8 (Cp a))∧Below w.heap.size w w':=by
 obtain⟨W0,aA⟩:∃z,z=((w.alloc (Obj.cells (E6 a).toArray 216)).alloc (Obj.cells (c8 (z8 32)).toArray 35)).alloc (Obj.cells (c8 (z8 32)).toArray 35):=⟨_,rfl⟩;have hL:W0=Y6 w [(216,E6 a),(35,c8 (z8 32)),(35,c8 (z8 32))]:=aA;have B0:Below w.heap.size w W0:=by rw[hL];exact N7 _ _
 have D0:Bk W0 w.heap.size 216 (E6 a):=by rw[hL];exact H7 _ w 0 _ _ rfl
 have R0:Bk W0 (w.heap.size+1) 35 (c8 (z8 32)):=by rw[hL];exact H7 _ w 1 _ _ rfl
 have O0:Bk W0 (w.heap.size+2) 35 (c8 (z8 32)):=by rw[hL];exact H7 _ w 2 _ _ rfl
 clear hL;go_enter Tryz.func131,Tryz.ntmps131;go_wp2_with fail;rw[←aA];clear aA;rw[←A4k (f:=C1q a)]at O0;go_loopw [5] (fun t wr=>∃i:Nat,i≤32∧t=.int .i64 (i:Int)∧Bk wr w.heap.size 216 (E6 a)∧Bk wr (w.heap.size+2) 35 (c8 (Fl (C1q a) 32 i))∧Bk wr (w.heap.size+1) 35 (c8 (z8 32))∧Below w.heap.size w wr) (fun t _=>32-(intOf t).toNat)
 case atStart=>exact ⟨0,by omega,rfl,D0,O0,R0,B0⟩
 case round=>
  clear D0 O0 R0 B0;obtain⟨i,hi,rfl,D,O,R,B⟩:=hrel;by_cases hlt:i<32
  ·have aE:(i:Int) / 8=((i / 8:Nat):Int):=by omega
   have aF:(i:Int) % 8=((i % 8:Nat):Int):=by omega
   have hx:C1q a i=(E7 a (i / 8) >>> UInt64.ofNat (8*(i % 8))).toUInt8:=rfl;have d0:=D.at_ (Q1 (l:=a) (i:=i / 8) (by omega));have o0:=O.at_ (Lu (l:=Fl (C1q a) 32 i) (i:=i) (by simpa using hlt));have f0:=O.frozen i;have aG:i / 8<4:=by omega
   have aH:i % 8<8:=by omega
   have HX:=Lib.hid hx;have O3:=O.set_ i (.int .u8 (n8 (E7 a (i / 8) >>> UInt64.ofNat (8*(i % 8))).toUInt8));rw[Mq,B9m (f:=C1q a) hlt HX.out.symm]at O3;clear hx;generalize i / 8=qq at *;generalize i % 8=rr at *;obtain⟨ss,aB⟩:∃s,s=8*rr:=⟨_,rfl⟩;have h8:8*(rr:Int)=(ss:Int):=by omega
   have aC:ss<64:=by omega
   rw[←aB]at O3;clear HX aB;go_wp2_with fail;go_roundw;case rel=>exact ⟨i+1,by omega,by go_num,D.far (by show w.heap.size≠w.heap.size+2;omega) _,O3,R.far (by show w.heap.size+1≠w.heap.size+2;omega) _,B.setCell (by show w.heap.size≤w.heap.size+2;omega) _⟩
   case measure=>simp[intOf];omega
  ·obtain rfl:i=32:=by omega
   have hO:Bk wr (w.heap.size+2) 35 (c8 (Cp a)):=O;have ro:=hO.row8 (n:=32) (by simp);have aD:E4 wr ⟨w.heap.size+1,0,none⟩ 32=true:=R.can (by simp);have e5:((32:Nat):Int)=32:=rfl;rw[e5];clear e5 O hO D;go_wp2_with fail;refine bodyPost_ret (C8 rfl _ _ _ _ _ _ rfl (R.puts (vs:=c8 (Cp a)) (by simp)) Tryz.underlying35 rfl (by simp[J5])) rfl ⟨rfl,C1 B (by simp) _⟩
end Go.Proofs.YtdfpoofbgjilgaaGreat
