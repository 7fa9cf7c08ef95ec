/- A part of the proof of DirBuilds. -/
import Derived.Test.YtlegpkdighoflaaGreatSam
set_option linter.unusedVariables false
set_option linter.unusedSimpArgs false
set_option maxRecDepth 100000
set_option maxHeartbeats 40000000
namespace Go.Proofs.YtlegpkdighoflaaGreat
open Go Go.RowKit Sh
section
def F0r (a b:List UInt64) (j:Nat):UInt64:=J6 a j+J6 b j
def E1j (a b:List UInt64) (j:Nat):UInt64:=J6 a j+(9007199254740988-J6 b j)
def C9j (a b:List UInt64):List UInt64:=Jz (F0r a b) (J6 a) 5 5
def D2k (a b:List UInt64):List UInt64:=(Jz (E1j a b) (J6 a) 5 5).set 0 (E1j a b 0-72)
@[simp, go_sem] theorem D4j (a b : List UInt64) : (C9j a b).length = 5 := rfl
@[simp, go_sem] theorem D4h (a b : List UInt64) : (D2k a b).length = 5 := rfl
def Gk (a b:List UInt64):List UInt64:=Gc (C9j a b)
def Gu (a b:List UInt64):List UInt64:=Gc (D2k a b)
@[simp, go_sem] theorem D5e (a b : List UInt64) : (Gk a b).length = 5 := rfl
@[simp, go_sem] theorem D4z (a b : List UInt64) : (Gu a b).length = 5 := rfl
def Cr (v:UInt64):List UInt64:=[v &&& 2251799813685247,v >>> 51,0,0,0]
@[simp, go_sem] theorem C9e (v : UInt64) : (Cr v).length = 5 := rfl
def Fu:Nat→List UInt64→List UInt64
 | 0,a=>a
 | n+1,a=>fsq (Fu n a)
@[simp, go_sem] theorem Xx {a : List UInt64} (ha : a.length = 5) : ∀ n, (Fu n a).length = 5
 | 0=>ha
 | _+1=>rfl
set_option maxRecDepth 100000
theorem Ey (a b:List UInt64) (ha:a.length=5) (hb:b.length=5) (w:World):Calls Tryz.prog 127 #[J7 a,J7 b] w fun e w'=>e=.returned (J7 (Gk a b))∧Below w.heap.size w w':=by
 revert a;refine B1e fun a0 a1 a2 a3 a4=>?_;revert b;refine B1e fun b0 b1 b2 b3 b4=>?_;let a:=[a0,a1,a2,a3,a4]
 let b:=[b0,b1,b2,b3,b4]
 exact T3 (g:=gE) 100 (avs a++avs b) (((List.range 5).map fun i=>A6b (J6 a i) (J6 b i))++[dE5 (Hn (C9j a b) rfl)]) Af Tryz.func127 (by kernel_rfl)
theorem Dq (a b:List UInt64) (ha:a.length=5) (hb:b.length=5) (w:World):Calls Tryz.prog 128 #[J7 a,J7 b] w fun e w'=>e=.returned (J7 (Gu a b))∧Below w.heap.size w w':=by
 revert a;refine B1e fun a0 a1 a2 a3 a4=>?_;revert b;refine B1e fun b0 b1 b2 b3 b4=>?_;let a:=[a0,a1,a2,a3,a4]
 let b:=[b0,b1,b2,b3,b4]
 let M:UInt64:=9007199254740988
 exact T3 (g:=gE) 100 (avs a++avs b) (((List.range 5).flatMap fun i=>[E4w M (J6 b i),A6b (J6 a i) (M-J6 b i)])++[E4w (a0+(M-b0)) 72,dE5 (Hn (D2k a b) rfl)]) Af Tryz.func128 (by kernel_rfl)
theorem Iz (v:UInt64) (w:World):Calls Tryz.prog 124 #[.int .u64 (J0 v)] w fun e w'=>e=.returned (J7 (Cr v))∧Below w.heap.size w w':=T3 (g:=gE) 100 (avs [v]) [Tp v 2251799813685247,C7l v .u64 51 (by decide)] Af Tryz.func124 (by kernel_rfl)
theorem Qj (a:List UInt64) (ha:a.length=5) (n:Nat) (hn:n≤1000000) (w:World):Calls Tryz.prog 130 #[J7 a,.int .i64 (n:Int)] w fun e w'=>e=.returned (J7 (Fu n a))∧Below w.heap.size w w':=by
 obtain⟨W0,aA⟩:∃z,z=(w.alloc (Obj.cells (C7 a).toArray 138)).alloc (Obj.cells (C7 (J8 5)).toArray 138):=⟨_,rfl⟩;have hL:W0=Q5 w [(138,C7 a),(138,C7 (J8 5))]:=aA;have B0:Below w.heap.size w W0:=by rw[hL];exact J9 _ _
 have A0:Bk W0 w.heap.size 138 (C7 a):=by rw[hL];exact F9 _ w 0 _ _ rfl
 have R0:Bk W0 (w.heap.size+1) 138 (C7 (J8 5)):=by rw[hL];exact F9 _ w 1 _ _ rfl
 clear hL;go_enter Tryz.func130,Tryz.ntmps130;go_wp2_with fail;rw[←aA];clear aA;go_loopw [6] (fun t wr=>∃i:Nat,i≤n∧t=.int .i64 (i:Int)∧Bk wr w.heap.size 138 (C7 (Fu i a))∧Bk wr (w.heap.size+1) 138 (C7 (J8 5))∧Below w.heap.size w wr) (fun t _=>n-(intOf t).toNat)
 case atStart=>exact ⟨0,by omega,rfl,A0,R0,B0⟩
 case round=>
  clear A0 R0 B0;obtain⟨i,hi,rfl,K,R,B⟩:=hrel;have hl:=Xx ha i;have rk:=K.row64 hl;by_cases hlt:i<n
  ·go_wp2_with fail;refine (Yj (Fu i a) hl wr).mono ?_;rintro e w1 ⟨rfl,b1⟩;have K1:=K.below b1 K.lt;have R1:=R.below b1 R.lt;have B1:=C0 B b1 B.size;have aB:E8 w1 ⟨w.heap.size,0,none⟩ 5=true:=K1.can (by simp[hl]);go_wp2_with fail;go_roundw;case rel=>exact ⟨i+1,by omega,by go_num,K1.puts (by simp[hl]),R1.putFar (by simp) _,C1 B1 (by simp) _⟩
   case measure=>simp[intOf];omega
  ·obtain rfl:i=n:=by omega
   have aB:E8 wr ⟨w.heap.size+1,0,none⟩ 5=true:=R.can (by simp);go_wp2_with fail;refine bodyPost_ret (E9 rfl _ _ _ _ _ _ rfl (R.puts (vs:=C7 (Fu i a)) (by simp[hl])) Fp rfl (by simp[Mh,hl])) rfl ⟨rfl,C1 B (by simp) _⟩
end
structure N5 where
 a:Nat
 b:Nat
 c:Nat
 d:Nat
 e:Nat
def u5 (x:N5):List UInt64:=[UInt64.ofNat x.a,UInt64.ofNat x.b,UInt64.ofNat x.c,UInt64.ofNat x.d,UInt64.ofNat x.e]
@[simp] theorem E0k (x : N5) : (u5 x).length = 5 := rfl
def D0l (x0 x1 x2 x3 x4:Nat):N5:=
 ⟨Nat.add (Nat.mod x0 2251799813685248) (Nat.mul 19 (Nat.div (Nat.mod x4 18446744073709551616) 2251799813685248)),
  Nat.add (Nat.mod x1 2251799813685248) (Nat.div (Nat.mod x0 18446744073709551616) 2251799813685248),
  Nat.add (Nat.mod x2 2251799813685248) (Nat.div (Nat.mod x1 18446744073709551616) 2251799813685248),
  Nat.add (Nat.mod x3 2251799813685248) (Nat.div (Nat.mod x2 18446744073709551616) 2251799813685248),
  Nat.add (Nat.mod x4 2251799813685248) (Nat.div (Nat.mod x3 18446744073709551616) 2251799813685248)⟩
def D5t (t0 t1 t2 t3 t4:Nat):N5:=
 D0l (Nat.add (Nat.mod t0 2251799813685248) (Nat.mul 19 (Nat.div t4 2251799813685248)))
  (Nat.add (Nat.mod t1 2251799813685248) (Nat.div t0 2251799813685248))
  (Nat.add (Nat.mod t2 2251799813685248) (Nat.div t1 2251799813685248))
  (Nat.add (Nat.mod t3 2251799813685248) (Nat.div t2 2251799813685248))
  (Nat.add (Nat.mod t4 2251799813685248) (Nat.div t3 2251799813685248))
def C4x (a b c d e:Nat):Nat:=Nat.add (Nat.add (Nat.add (Nat.add a b) c) d) e
def S4 (x:Nat):Nat:=Nat.mod x 18446744073709551616
def E7r (a0 a1 a2 a3 a4 b0 b1 b2 b3 b4 n1 n2 n3 n4:Nat):N5:=
 D5t (C4x (Nat.mul a0 b0) (Nat.mul n1 b4) (Nat.mul n2 b3) (Nat.mul n3 b2) (Nat.mul n4 b1))
  (C4x (Nat.mul a0 b1) (Nat.mul a1 b0) (Nat.mul n2 b4) (Nat.mul n3 b3) (Nat.mul n4 b2))
  (C4x (Nat.mul a0 b2) (Nat.mul a1 b1) (Nat.mul a2 b0) (Nat.mul n3 b4) (Nat.mul n4 b3))
  (C4x (Nat.mul a0 b3) (Nat.mul a1 b2) (Nat.mul a2 b1) (Nat.mul a3 b0) (Nat.mul n4 b4))
  (C4x (Nat.mul a0 b4) (Nat.mul a1 b3) (Nat.mul a2 b2) (Nat.mul a3 b1) (Nat.mul a4 b0))
def Cn (x y:N5):N5:=
 E7r (S4 x.a) (S4 x.b) (S4 x.c) (S4 x.d) (S4 x.e) (S4 y.a) (S4 y.b) (S4 y.c) (S4 y.d) (S4 y.e)
  (S4 (Nat.mul 19 x.b)) (S4 (Nat.mul 19 x.c)) (S4 (Nat.mul 19 x.d)) (S4 (Nat.mul 19 x.e))
def sqG (a0 a1 a2 a3 a4 d0 d1 d2 d3 n3 n4:Nat):N5:=
 D5t (Nat.add (Nat.add (Nat.mul a0 a0) (Nat.mul d1 n4)) (Nat.mul d2 n3))
  (Nat.add (Nat.add (Nat.mul d0 a1) (Nat.mul d2 n4)) (Nat.mul a3 n3))
  (Nat.add (Nat.add (Nat.mul d0 a2) (Nat.mul a1 a1)) (Nat.mul d3 n4))
  (Nat.add (Nat.add (Nat.mul d0 a3) (Nat.mul d1 a2)) (Nat.mul a4 n4))
  (Nat.add (Nat.add (Nat.mul d0 a4) (Nat.mul d1 a3)) (Nat.mul a2 a2))
def sqN (x:N5):N5:=
 sqG (S4 x.a) (S4 x.b) (S4 x.c) (S4 x.d) (S4 x.e) (S4 (Nat.mul 2 x.a)) (S4 (Nat.mul 2 x.b)) (S4 (Nat.mul 2 x.c)) (S4 (Nat.mul 2 x.d)) (S4 (Nat.mul 19 x.d)) (S4 (Nat.mul 19 x.e))
def Nv (x y:N5):N5:=D0l (Nat.add x.a y.a) (Nat.add x.b y.b) (Nat.add x.c y.c) (Nat.add x.d y.d) (Nat.add x.e y.e)
def Vi (x y:N5):N5:=
 D0l (Nat.add x.a (Nat.sub 18455751272964292532 (S4 y.a))) (Nat.add x.b (Nat.sub 18455751272964292604 (S4 y.b))) (Nat.add x.c (Nat.sub 18455751272964292604 (S4 y.c))) (Nat.add x.d (Nat.sub 18455751272964292604 (S4 y.d))) (Nat.add x.e (Nat.sub 18455751272964292604 (S4 y.e)))
def Yf:Nat→N5→N5
 | 0,a=>a
 | q+1,a=>sqN (Yf q a)
def d2 (n:Nat):List UInt64:=[UInt64.ofNat (n / 18446744073709551616),UInt64.ofNat n]
theorem P4 (n:Nat):(UInt64.ofNat n).toNat=n % 18446744073709551616:=UInt64.toNat_ofNat' ..
theorem Ts (a b:Nat):UInt64.ofNat a+UInt64.ofNat b=UInt64.ofNat (a+b):=by
 apply UInt64.toNat_inj.1;rw[UInt64.toNat_add,P4,P4,P4];omega
theorem A5u (a b:Nat):UInt64.ofNat a*UInt64.ofNat b=UInt64.ofNat (a*b):=by
 apply UInt64.toNat_inj.1;rw[UInt64.toNat_mul,P4,P4,P4];exact (Nat.mul_mod _ _ _).symm
theorem T8 (a:Nat):UInt64.ofNat (S4 a)=UInt64.ofNat a:=by
 apply UInt64.toNat_inj.1;rw[P4,P4];show a % 18446744073709551616 % 18446744073709551616=_;omega
theorem C6g (a:Nat):UInt64.ofNat a &&& (2251799813685247:UInt64)=UInt64.ofNat (a % 2251799813685248):=by
 apply UInt64.toNat_inj.1;rw[UInt64.toNat_and,P4,P4];rw[show (2251799813685247:UInt64).toNat=2 ^ 51-1 from rfl,Nat.and_two_pow_sub_one_eq_mod];omega
theorem D6w (a:Nat):UInt64.ofNat a >>> (51:UInt64)=UInt64.ofNat (a % 18446744073709551616 / 2251799813685248):=by
 apply UInt64.toNat_inj.1;rw[UInt64.toNat_shiftRight,P4,P4,show (51:UInt64).toNat % 64=51 from rfl,Nat.shiftRight_eq_div_pow];omega
theorem B6p (x y:Nat) (hx:x<18446744073709551616) (hy:y<18446744073709551616):Nz (UInt64.ofNat x) (UInt64.ofNat y)=d2 (x*y):=by
 unfold Nz B2x d2;rw[A5u,P4,P4,Nat.mod_eq_of_lt hx,Nat.mod_eq_of_lt hy]
theorem A9b (n x y:Nat) (hx:x<18446744073709551616) (hy:y<18446744073709551616):Ac (d2 n) (UInt64.ofNat x) (UInt64.ofNat y)=d2 (n+x*y):=by
 have e0:J6 (d2 n) 0=UInt64.ofNat (n / 18446744073709551616):=rfl;have e1:J6 (d2 n) 1=UInt64.ofNat n:=rfl;unfold Ac;rw[e0,e1];unfold d2 Wy Yc B2x;have z:(0:UInt64)=UInt64.ofNat 0:=rfl;rw[A5u,P4,P4,P4,P4,Nat.mod_eq_of_lt hx,Nat.mod_eq_of_lt hy,z,P4,Ts,Ts,Ts,Ts];generalize x*y=p;have:UInt64.ofNat (p / 18446744073709551616+n / 18446744073709551616+(p % 18446744073709551616+n % 18446744073709551616+0 % 18446744073709551616) / 18446744073709551616)=UInt64.ofNat ((n+p) / 18446744073709551616):=by congr 1;omega
 rw[this];congr 2;congr 1;omega
theorem D2t (n:Nat):over (d2 n)=UInt64.ofNat (n / 2251799813685248):=by
 have e0:J6 (d2 n) 0=UInt64.ofNat (n / 18446744073709551616):=rfl;have e1:J6 (d2 n) 1=UInt64.ofNat n:=rfl;unfold over;rw[e0,e1];apply UInt64.toNat_inj.1;rw[UInt64.toNat_or,UInt64.toNat_shiftLeft,UInt64.toNat_shiftRight,P4,P4,P4,show (51:UInt64).toNat % 64=51 from rfl,show (13:UInt64).toNat % 64=13 from rfl,Nat.shiftRight_eq_div_pow,Nat.shiftLeft_eq];have e:n / 18446744073709551616 % 18446744073709551616*2 ^ 13 % 2 ^ 64=(n / 18446744073709551616 % 2251799813685248) <<< 13:=by rw[Nat.shiftLeft_eq];omega
 rw[e,←Nat.shiftLeft_add_eq_or_of_lt (by omega),Nat.shiftLeft_eq];omega
theorem D8g (n:Nat):J6 (d2 n) 1 &&& (2251799813685247:UInt64)=UInt64.ofNat (n % 2251799813685248):=C6g n
theorem Dg (a:Nat):19*UInt64.ofNat a=UInt64.ofNat (19*a):=A5u 19 a
theorem A6j (a:Nat):2*UInt64.ofNat a=UInt64.ofNat (2*a):=A5u 2 a
theorem B4n (x0 x1 x2 x3 x4:Nat):Gc [UInt64.ofNat x0,UInt64.ofNat x1,UInt64.ofNat x2,UInt64.ofNat x3,UInt64.ofNat x4]=u5 (D0l x0 x1 x2 x3 x4):=by
 show [(UInt64.ofNat x0 &&& (2251799813685247:UInt64))+19*(UInt64.ofNat x4 >>> (51:UInt64)),(UInt64.ofNat x1 &&& (2251799813685247:UInt64))+UInt64.ofNat x0 >>> (51:UInt64),(UInt64.ofNat x2 &&& (2251799813685247:UInt64))+UInt64.ofNat x1 >>> (51:UInt64),(UInt64.ofNat x3 &&& (2251799813685247:UInt64))+UInt64.ofNat x2 >>> (51:UInt64),(UInt64.ofNat x4 &&& (2251799813685247:UInt64))+UInt64.ofNat x3 >>> (51:UInt64)]=_;simp only[C6g,D6w,Dg,Ts];rfl
theorem C6d (t0 t1 t2 t3 t4:Nat):Ll (d2 t0) (d2 t1) (d2 t2) (d2 t3) (d2 t4)=u5 (D5t t0 t1 t2 t3 t4):=by
 unfold Ll D0y;simp only[D8g,D2t,Dg,Ts];rw[B4n];rfl
theorem Qo (a:Nat):S4 a<18446744073709551616:=Nat.mod_lt _ (by decide)
theorem Di (x y:N5):P6 (u5 x) (u5 y)=u5 (Cn x y):=by
 obtain⟨a0,a1,a2,a3,a4⟩:=x;obtain⟨b0,b1,b2,b3,b4⟩:=y;have e0:J6 (u5 ⟨a0,a1,a2,a3,a4⟩) 0=UInt64.ofNat (S4 a0):=(T8 _).symm;have e1:J6 (u5 ⟨a0,a1,a2,a3,a4⟩) 1=UInt64.ofNat (S4 a1):=(T8 _).symm;have e2:J6 (u5 ⟨a0,a1,a2,a3,a4⟩) 2=UInt64.ofNat (S4 a2):=(T8 _).symm;have e3:J6 (u5 ⟨a0,a1,a2,a3,a4⟩) 3=UInt64.ofNat (S4 a3):=(T8 _).symm;have e4:J6 (u5 ⟨a0,a1,a2,a3,a4⟩) 4=UInt64.ofNat (S4 a4):=(T8 _).symm;have f0:J6 (u5 ⟨b0,b1,b2,b3,b4⟩) 0=UInt64.ofNat (S4 b0):=(T8 _).symm;have f1:J6 (u5 ⟨b0,b1,b2,b3,b4⟩) 1=UInt64.ofNat (S4 b1):=(T8 _).symm;have f2:J6 (u5 ⟨b0,b1,b2,b3,b4⟩) 2=UInt64.ofNat (S4 b2):=(T8 _).symm;have f3:J6 (u5 ⟨b0,b1,b2,b3,b4⟩) 3=UInt64.ofNat (S4 b3):=(T8 _).symm;have f4:J6 (u5 ⟨b0,b1,b2,b3,b4⟩) 4=UInt64.ofNat (S4 b4):=(T8 _).symm;have n1:19*UInt64.ofNat (S4 a1)=UInt64.ofNat (S4 (Nat.mul 19 a1)):=by rw[T8,T8];exact Dg _
 have n2:19*UInt64.ofNat (S4 a2)=UInt64.ofNat (S4 (Nat.mul 19 a2)):=by rw[T8,T8];exact Dg _
 have n3:19*UInt64.ofNat (S4 a3)=UInt64.ofNat (S4 (Nat.mul 19 a3)):=by rw[T8,T8];exact Dg _
 have n4:19*UInt64.ofNat (S4 a4)=UInt64.ofNat (S4 (Nat.mul 19 a4)):=by rw[T8,T8];exact Dg _
 unfold P6 A5z A7g A7s A8m A6i;rw[e0,e1,e2,e3,e4,f0,f1,f2,f3,f4,n1,n2,n3,n4];unfold Cn E7r;dsimp only;simp only[B6p _ _ (Qo _) (Qo _),A9b _ _ _ (Qo _) (Qo _)];exact C6d _ _ _ _ _
theorem A8s (x:N5):fsq (u5 x)=u5 (sqN x):=by
 obtain⟨a0,a1,a2,a3,a4⟩:=x;have e0:J6 (u5 ⟨a0,a1,a2,a3,a4⟩) 0=UInt64.ofNat (S4 a0):=(T8 _).symm;have e1:J6 (u5 ⟨a0,a1,a2,a3,a4⟩) 1=UInt64.ofNat (S4 a1):=(T8 _).symm;have e2:J6 (u5 ⟨a0,a1,a2,a3,a4⟩) 2=UInt64.ofNat (S4 a2):=(T8 _).symm;have e3:J6 (u5 ⟨a0,a1,a2,a3,a4⟩) 3=UInt64.ofNat (S4 a3):=(T8 _).symm;have e4:J6 (u5 ⟨a0,a1,a2,a3,a4⟩) 4=UInt64.ofNat (S4 a4):=(T8 _).symm;have n3:19*UInt64.ofNat (S4 a3)=UInt64.ofNat (S4 (Nat.mul 19 a3)):=by rw[T8,T8];exact Dg _
 have n4:19*UInt64.ofNat (S4 a4)=UInt64.ofNat (S4 (Nat.mul 19 a4)):=by rw[T8,T8];exact Dg _
 have m0:2*UInt64.ofNat (S4 a0)=UInt64.ofNat (S4 (Nat.mul 2 a0)):=by rw[T8,T8];exact A6j _
 have m1:2*UInt64.ofNat (S4 a1)=UInt64.ofNat (S4 (Nat.mul 2 a1)):=by rw[T8,T8];exact A6j _
 have m2:2*UInt64.ofNat (S4 a2)=UInt64.ofNat (S4 (Nat.mul 2 a2)):=by rw[T8,T8];exact A6j _
 have m3:2*UInt64.ofNat (S4 a3)=UInt64.ofNat (S4 (Nat.mul 2 a3)):=by rw[T8,T8];exact A6j _
 unfold fsq B8u B8i B7n B7m B8s;rw[e0,e1,e2,e3,e4,m0,m1,m2,m3,n3,n4];unfold sqN sqG;dsimp only;simp only[B6p _ _ (Qo _) (Qo _),A9b _ _ _ (Qo _) (Qo _)];exact C6d _ _ _ _ _
theorem A8j (x y:N5):Gk (u5 x) (u5 y)=u5 (Nv x y):=by
 obtain⟨a0,a1,a2,a3,a4⟩:=x;obtain⟨b0,b1,b2,b3,b4⟩:=y;have e:C9j (u5 ⟨a0,a1,a2,a3,a4⟩) (u5 ⟨b0,b1,b2,b3,b4⟩)=[UInt64.ofNat a0+UInt64.ofNat b0,UInt64.ofNat a1+UInt64.ofNat b1,UInt64.ofNat a2+UInt64.ofNat b2,UInt64.ofNat a3+UInt64.ofNat b3,UInt64.ofNat a4+UInt64.ofNat b4]:=rfl;unfold Gk;rw[e];simp only[Ts];exact B4n _ _ _ _ _
theorem A6e (a b:Nat):UInt64.ofNat a+(9007199254740988-UInt64.ofNat b)=UInt64.ofNat (a+(18455751272964292604-S4 b)):=by
 apply UInt64.toNat_inj.1;rw[UInt64.toNat_add,UInt64.toNat_sub,P4,P4,P4];have:(9007199254740988:UInt64).toNat=9007199254740988:=rfl;rw[this];show _=(a+(18455751272964292604-b % 18446744073709551616)) % 18446744073709551616;omega
theorem C9s (a b:Nat):UInt64.ofNat a+(9007199254740988-UInt64.ofNat b)-72=UInt64.ofNat (a+(18455751272964292532-S4 b)):=by
 apply UInt64.toNat_inj.1;rw[UInt64.toNat_sub,UInt64.toNat_add,UInt64.toNat_sub,P4,P4,P4];have:(9007199254740988:UInt64).toNat=9007199254740988:=rfl;rw[this];have:(72:UInt64).toNat=72:=rfl;rw[this];show _=(a+(18455751272964292532-b % 18446744073709551616)) % 18446744073709551616;omega
theorem Te (x y:N5):Gu (u5 x) (u5 y)=u5 (Vi x y):=by
 obtain⟨a0,a1,a2,a3,a4⟩:=x;obtain⟨b0,b1,b2,b3,b4⟩:=y;have e:D2k (u5 ⟨a0,a1,a2,a3,a4⟩) (u5 ⟨b0,b1,b2,b3,b4⟩)=[UInt64.ofNat a0+(9007199254740988-UInt64.ofNat b0)-72,UInt64.ofNat a1+(9007199254740988-UInt64.ofNat b1),UInt64.ofNat a2+(9007199254740988-UInt64.ofNat b2),UInt64.ofNat a3+(9007199254740988-UInt64.ofNat b3),UInt64.ofNat a4+(9007199254740988-UInt64.ofNat b4)]:=rfl;unfold Gu;rw[e];rw[C9s,A6e,A6e,A6e,A6e];exact B4n _ _ _ _ _
theorem Le (n:Nat) (x:N5):Fu n (u5 x)=u5 (Yf n x):=by
 induction n with
 | zero=>rfl
 | succ n ih=>show fsq (Fu n (u5 x))=_;rw[ih,A8s];rfl
end Go.Proofs.YtlegpkdighoflaaGreat
