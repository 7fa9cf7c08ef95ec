/- A part of the proof of ClientForks. -/
import Derived.Test.YtdfpoofbgjilgaaGreatVat
set_option linter.unusedVariables false
set_option linter.unusedSimpArgs false
set_option maxRecDepth 100000
set_option maxHeartbeats 40000000
namespace Go.Proofs.YtdfpoofbgjilgaaGreat
open Go Go.RowKit Sh
structure N5 where
 a:Nat
 b:Nat
 c:Nat
 d:Nat
 e:Nat
def u5 (x:N5):List UInt64:=[UInt64.ofNat x.a,UInt64.ofNat x.b,UInt64.ofNat x.c,UInt64.ofNat x.d,UInt64.ofNat x.e]
@[simp] theorem E3l (x : N5) : (u5 x).length = 5 := rfl
def D2u (x0 x1 x2 x3 x4:Nat):N5:=
 ⟨Nat.add (Nat.mod x0 2251799813685248) (Nat.mul 19 (Nat.div (Nat.mod x4 18446744073709551616) 2251799813685248)),
  Nat.add (Nat.mod x1 2251799813685248) (Nat.div (Nat.mod x0 18446744073709551616) 2251799813685248),
  Nat.add (Nat.mod x2 2251799813685248) (Nat.div (Nat.mod x1 18446744073709551616) 2251799813685248),
  Nat.add (Nat.mod x3 2251799813685248) (Nat.div (Nat.mod x2 18446744073709551616) 2251799813685248),
  Nat.add (Nat.mod x4 2251799813685248) (Nat.div (Nat.mod x3 18446744073709551616) 2251799813685248)⟩
def E0p (t0 t1 t2 t3 t4:Nat):N5:=
 D2u (Nat.add (Nat.mod t0 2251799813685248) (Nat.mul 19 (Nat.div t4 2251799813685248)))
  (Nat.add (Nat.mod t1 2251799813685248) (Nat.div t0 2251799813685248))
  (Nat.add (Nat.mod t2 2251799813685248) (Nat.div t1 2251799813685248))
  (Nat.add (Nat.mod t3 2251799813685248) (Nat.div t2 2251799813685248))
  (Nat.add (Nat.mod t4 2251799813685248) (Nat.div t3 2251799813685248))
def D0m (a b c d e:Nat):Nat:=Nat.add (Nat.add (Nat.add (Nat.add a b) c) d) e
def N7 (x:Nat):Nat:=Nat.mod x 18446744073709551616
def E7u (a0 a1 a2 a3 a4 b0 b1 b2 b3 b4 n1 n2 n3 n4:Nat):N5:=
 E0p (D0m (Nat.mul a0 b0) (Nat.mul n1 b4) (Nat.mul n2 b3) (Nat.mul n3 b2) (Nat.mul n4 b1))
  (D0m (Nat.mul a0 b1) (Nat.mul a1 b0) (Nat.mul n2 b4) (Nat.mul n3 b3) (Nat.mul n4 b2))
  (D0m (Nat.mul a0 b2) (Nat.mul a1 b1) (Nat.mul a2 b0) (Nat.mul n3 b4) (Nat.mul n4 b3))
  (D0m (Nat.mul a0 b3) (Nat.mul a1 b2) (Nat.mul a2 b1) (Nat.mul a3 b0) (Nat.mul n4 b4))
  (D0m (Nat.mul a0 b4) (Nat.mul a1 b3) (Nat.mul a2 b2) (Nat.mul a3 b1) (Nat.mul a4 b0))
def Z4 (x y:N5):N5:=
 E7u (N7 x.a) (N7 x.b) (N7 x.c) (N7 x.d) (N7 x.e) (N7 y.a) (N7 y.b) (N7 y.c) (N7 y.d) (N7 y.e)
  (N7 (Nat.mul 19 x.b)) (N7 (Nat.mul 19 x.c)) (N7 (Nat.mul 19 x.d)) (N7 (Nat.mul 19 x.e))
def sqG (a0 a1 a2 a3 a4 d0 d1 d2 d3 n3 n4:Nat):N5:=
 E0p (Nat.add (Nat.add (Nat.mul a0 a0) (Nat.mul d1 n4)) (Nat.mul d2 n3))
  (Nat.add (Nat.add (Nat.mul d0 a1) (Nat.mul d2 n4)) (Nat.mul a3 n3))
  (Nat.add (Nat.add (Nat.mul d0 a2) (Nat.mul a1 a1)) (Nat.mul d3 n4))
  (Nat.add (Nat.add (Nat.mul d0 a3) (Nat.mul d1 a2)) (Nat.mul a4 n4))
  (Nat.add (Nat.add (Nat.mul d0 a4) (Nat.mul d1 a3)) (Nat.mul a2 a2))
def sqN (x:N5):N5:=
 sqG (N7 x.a) (N7 x.b) (N7 x.c) (N7 x.d) (N7 x.e) (N7 (Nat.mul 2 x.a)) (N7 (Nat.mul 2 x.b)) (N7 (Nat.mul 2 x.c)) (N7 (Nat.mul 2 x.d)) (N7 (Nat.mul 19 x.d)) (N7 (Nat.mul 19 x.e))
def Lv (x y:N5):N5:=D2u (Nat.add x.a y.a) (Nat.add x.b y.b) (Nat.add x.c y.c) (Nat.add x.d y.d) (Nat.add x.e y.e)
def Sk (x y:N5):N5:=
 D2u (Nat.add x.a (Nat.sub 18455751272964292532 (N7 y.a))) (Nat.add x.b (Nat.sub 18455751272964292604 (N7 y.b))) (Nat.add x.c (Nat.sub 18455751272964292604 (N7 y.c))) (Nat.add x.d (Nat.sub 18455751272964292604 (N7 y.d))) (Nat.add x.e (Nat.sub 18455751272964292604 (N7 y.e)))
def Xr:Nat→N5→N5
 | 0,a=>a
 | q+1,a=>sqN (Xr q a)
def d2 (n:Nat):List UInt64:=[UInt64.ofNat (n / 18446744073709551616),UInt64.ofNat n]
theorem J2 (n:Nat):(UInt64.ofNat n).toNat=n % 18446744073709551616:=UInt64.toNat_ofNat' ..
theorem Qp (a b:Nat):UInt64.ofNat a+UInt64.ofNat b=UInt64.ofNat (a+b):=by
 apply UInt64.toNat_inj.1;rw[UInt64.toNat_add,J2,J2,J2];omega
theorem A7e (a b:Nat):UInt64.ofNat a*UInt64.ofNat b=UInt64.ofNat (a*b):=by
 apply UInt64.toNat_inj.1;rw[UInt64.toNat_mul,J2,J2,J2];exact (Nat.mul_mod _ _ _).symm
theorem O6 (a:Nat):UInt64.ofNat (N7 a)=UInt64.ofNat a:=by
 apply UInt64.toNat_inj.1;rw[J2,J2];show a % 18446744073709551616 % 18446744073709551616=_;omega
theorem C8v (a:Nat):UInt64.ofNat a &&& (2251799813685247:UInt64)=UInt64.ofNat (a % 2251799813685248):=by
 apply UInt64.toNat_inj.1;rw[UInt64.toNat_and,J2,J2];rw[show (2251799813685247:UInt64).toNat=2 ^ 51-1 from rfl,Nat.and_two_pow_sub_one_eq_mod];omega
theorem E1e (a:Nat):UInt64.ofNat a >>> (51:UInt64)=UInt64.ofNat (a % 18446744073709551616 / 2251799813685248):=by
 apply UInt64.toNat_inj.1;rw[UInt64.toNat_shiftRight,J2,J2,show (51:UInt64).toNat % 64=51 from rfl,Nat.shiftRight_eq_div_pow];omega
theorem B8r (x y:Nat) (hx:x<18446744073709551616) (hy:y<18446744073709551616):Lx (UInt64.ofNat x) (UInt64.ofNat y)=d2 (x*y):=by
 unfold Lx B2d d2;rw[A7e,J2,J2,Nat.mod_eq_of_lt hx,Nat.mod_eq_of_lt hy]
theorem B3x (n x y:Nat) (hx:x<18446744073709551616) (hy:y<18446744073709551616):T4 (d2 n) (UInt64.ofNat x) (UInt64.ofNat y)=d2 (n+x*y):=by
 have e0:E8 (d2 n) 0=UInt64.ofNat (n / 18446744073709551616):=rfl;have e1:E8 (d2 n) 1=UInt64.ofNat n:=rfl;unfold T4;rw[e0,e1];unfold d2 Uu Xn B2d;have z:(0:UInt64)=UInt64.ofNat 0:=rfl;rw[A7e,J2,J2,J2,J2,Nat.mod_eq_of_lt hx,Nat.mod_eq_of_lt hy,z,J2,Qp,Qp,Qp,Qp];generalize x*y=p;have:UInt64.ofNat (p / 18446744073709551616+n / 18446744073709551616+(p % 18446744073709551616+n % 18446744073709551616+0 % 18446744073709551616) / 18446744073709551616)=UInt64.ofNat ((n+p) / 18446744073709551616):=by congr 1;omega
 rw[this];congr 2;congr 1;omega
theorem D6f (n:Nat):over (d2 n)=UInt64.ofNat (n / 2251799813685248):=by
 have e0:E8 (d2 n) 0=UInt64.ofNat (n / 18446744073709551616):=rfl;have e1:E8 (d2 n) 1=UInt64.ofNat n:=rfl;unfold over;rw[e0,e1];apply UInt64.toNat_inj.1;rw[UInt64.toNat_or,UInt64.toNat_shiftLeft,UInt64.toNat_shiftRight,J2,J2,J2,show (51:UInt64).toNat % 64=51 from rfl,show (13:UInt64).toNat % 64=13 from rfl,Nat.shiftRight_eq_div_pow,Nat.shiftLeft_eq];have e:n / 18446744073709551616 % 18446744073709551616*2 ^ 13 % 2 ^ 64=(n / 18446744073709551616 % 2251799813685248) <<< 13:=by rw[Nat.shiftLeft_eq];omega
 rw[e,←Nat.shiftLeft_add_eq_or_of_lt (by omega),Nat.shiftLeft_eq];omega
theorem E0e (n:Nat):E8 (d2 n) 1 &&& (2251799813685247:UInt64)=UInt64.ofNat (n % 2251799813685248):=C8v n
theorem Aw (a:Nat):19*UInt64.ofNat a=UInt64.ofNat (19*a):=A7e 19 a
theorem A8r (a:Nat):2*UInt64.ofNat a=UInt64.ofNat (2*a):=A7e 2 a
theorem B6h (x0 x1 x2 x3 x4:Nat):Ez [UInt64.ofNat x0,UInt64.ofNat x1,UInt64.ofNat x2,UInt64.ofNat x3,UInt64.ofNat x4]=u5 (D2u x0 x1 x2 x3 x4):=by
 show [(UInt64.ofNat x0 &&& (2251799813685247:UInt64))+19*(UInt64.ofNat x4 >>> (51:UInt64)),(UInt64.ofNat x1 &&& (2251799813685247:UInt64))+UInt64.ofNat x0 >>> (51:UInt64),(UInt64.ofNat x2 &&& (2251799813685247:UInt64))+UInt64.ofNat x1 >>> (51:UInt64),(UInt64.ofNat x3 &&& (2251799813685247:UInt64))+UInt64.ofNat x2 >>> (51:UInt64),(UInt64.ofNat x4 &&& (2251799813685247:UInt64))+UInt64.ofNat x3 >>> (51:UInt64)]=_;simp only[C8v,E1e,Aw,Qp];rfl
theorem C5o (t0 t1 t2 t3 t4:Nat):Jr (d2 t0) (d2 t1) (d2 t2) (d2 t3) (d2 t4)=u5 (E0p t0 t1 t2 t3 t4):=by
 unfold Jr D5v;simp only[E0e,D6f,Aw,Qp];rw[B6h];rfl
theorem Ny (a:Nat):N7 a<18446744073709551616:=Nat.mod_lt _ (by decide)
theorem Az (x y:N5):J5 (u5 x) (u5 y)=u5 (Z4 x y):=by
 obtain⟨a0,a1,a2,a3,a4⟩:=x;obtain⟨b0,b1,b2,b3,b4⟩:=y;have e0:E8 (u5 ⟨a0,a1,a2,a3,a4⟩) 0=UInt64.ofNat (N7 a0):=(O6 _).symm;have e1:E8 (u5 ⟨a0,a1,a2,a3,a4⟩) 1=UInt64.ofNat (N7 a1):=(O6 _).symm;have e2:E8 (u5 ⟨a0,a1,a2,a3,a4⟩) 2=UInt64.ofNat (N7 a2):=(O6 _).symm;have e3:E8 (u5 ⟨a0,a1,a2,a3,a4⟩) 3=UInt64.ofNat (N7 a3):=(O6 _).symm;have e4:E8 (u5 ⟨a0,a1,a2,a3,a4⟩) 4=UInt64.ofNat (N7 a4):=(O6 _).symm;have f0:E8 (u5 ⟨b0,b1,b2,b3,b4⟩) 0=UInt64.ofNat (N7 b0):=(O6 _).symm;have f1:E8 (u5 ⟨b0,b1,b2,b3,b4⟩) 1=UInt64.ofNat (N7 b1):=(O6 _).symm;have f2:E8 (u5 ⟨b0,b1,b2,b3,b4⟩) 2=UInt64.ofNat (N7 b2):=(O6 _).symm;have f3:E8 (u5 ⟨b0,b1,b2,b3,b4⟩) 3=UInt64.ofNat (N7 b3):=(O6 _).symm;have f4:E8 (u5 ⟨b0,b1,b2,b3,b4⟩) 4=UInt64.ofNat (N7 b4):=(O6 _).symm;have n1:19*UInt64.ofNat (N7 a1)=UInt64.ofNat (N7 (Nat.mul 19 a1)):=by rw[O6,O6];exact Aw _
 have n2:19*UInt64.ofNat (N7 a2)=UInt64.ofNat (N7 (Nat.mul 19 a2)):=by rw[O6,O6];exact Aw _
 have n3:19*UInt64.ofNat (N7 a3)=UInt64.ofNat (N7 (Nat.mul 19 a3)):=by rw[O6,O6];exact Aw _
 have n4:19*UInt64.ofNat (N7 a4)=UInt64.ofNat (N7 (Nat.mul 19 a4)):=by rw[O6,O6];exact Aw _
 unfold J5 A6t A7g A7m A8b A8v;rw[e0,e1,e2,e3,e4,f0,f1,f2,f3,f4,n1,n2,n3,n4];unfold Z4 E7u;dsimp only;simp only[B8r _ _ (Ny _) (Ny _),B3x _ _ _ (Ny _) (Ny _)];exact C5o _ _ _ _ _
theorem A9r (x:N5):fsq (u5 x)=u5 (sqN x):=by
 obtain⟨a0,a1,a2,a3,a4⟩:=x;have e0:E8 (u5 ⟨a0,a1,a2,a3,a4⟩) 0=UInt64.ofNat (N7 a0):=(O6 _).symm;have e1:E8 (u5 ⟨a0,a1,a2,a3,a4⟩) 1=UInt64.ofNat (N7 a1):=(O6 _).symm;have e2:E8 (u5 ⟨a0,a1,a2,a3,a4⟩) 2=UInt64.ofNat (N7 a2):=(O6 _).symm;have e3:E8 (u5 ⟨a0,a1,a2,a3,a4⟩) 3=UInt64.ofNat (N7 a3):=(O6 _).symm;have e4:E8 (u5 ⟨a0,a1,a2,a3,a4⟩) 4=UInt64.ofNat (N7 a4):=(O6 _).symm;have n3:19*UInt64.ofNat (N7 a3)=UInt64.ofNat (N7 (Nat.mul 19 a3)):=by rw[O6,O6];exact Aw _
 have n4:19*UInt64.ofNat (N7 a4)=UInt64.ofNat (N7 (Nat.mul 19 a4)):=by rw[O6,O6];exact Aw _
 have m0:2*UInt64.ofNat (N7 a0)=UInt64.ofNat (N7 (Nat.mul 2 a0)):=by rw[O6,O6];exact A8r _
 have m1:2*UInt64.ofNat (N7 a1)=UInt64.ofNat (N7 (Nat.mul 2 a1)):=by rw[O6,O6];exact A8r _
 have m2:2*UInt64.ofNat (N7 a2)=UInt64.ofNat (N7 (Nat.mul 2 a2)):=by rw[O6,O6];exact A8r _
 have m3:2*UInt64.ofNat (N7 a3)=UInt64.ofNat (N7 (Nat.mul 2 a3)):=by rw[O6,O6];exact A8r _
 unfold fsq C0g B9x C0h B9o B9m;rw[e0,e1,e2,e3,e4,m0,m1,m2,m3,n3,n4];unfold sqN sqG;dsimp only;simp only[B8r _ _ (Ny _) (Ny _),B3x _ _ _ (Ny _) (Ny _)];exact C5o _ _ _ _ _
theorem A8g (x y:N5):Ed (u5 x) (u5 y)=u5 (Lv x y):=by
 obtain⟨a0,a1,a2,a3,a4⟩:=x;obtain⟨b0,b1,b2,b3,b4⟩:=y;have e:D4l (u5 ⟨a0,a1,a2,a3,a4⟩) (u5 ⟨b0,b1,b2,b3,b4⟩)=[UInt64.ofNat a0+UInt64.ofNat b0,UInt64.ofNat a1+UInt64.ofNat b1,UInt64.ofNat a2+UInt64.ofNat b2,UInt64.ofNat a3+UInt64.ofNat b3,UInt64.ofNat a4+UInt64.ofNat b4]:=rfl;unfold Ed;rw[e];simp only[Qp];exact B6h _ _ _ _ _
theorem A6z (a b:Nat):UInt64.ofNat a+(9007199254740988-UInt64.ofNat b)=UInt64.ofNat (a+(18455751272964292604-N7 b)):=by
 apply UInt64.toNat_inj.1;rw[UInt64.toNat_add,UInt64.toNat_sub,J2,J2,J2];have:(9007199254740988:UInt64).toNat=9007199254740988:=rfl;rw[this];show _=(a+(18455751272964292604-b % 18446744073709551616)) % 18446744073709551616;omega
theorem D3r (a b:Nat):UInt64.ofNat a+(9007199254740988-UInt64.ofNat b)-72=UInt64.ofNat (a+(18455751272964292532-N7 b)):=by
 apply UInt64.toNat_inj.1;rw[UInt64.toNat_sub,UInt64.toNat_add,UInt64.toNat_sub,J2,J2,J2];have:(9007199254740988:UInt64).toNat=9007199254740988:=rfl;rw[this];have:(72:UInt64).toNat=72:=rfl;rw[this];show _=(a+(18455751272964292532-b % 18446744073709551616)) % 18446744073709551616;omega
theorem Ro (x y:N5):Es (u5 x) (u5 y)=u5 (Sk x y):=by
 obtain⟨a0,a1,a2,a3,a4⟩:=x;obtain⟨b0,b1,b2,b3,b4⟩:=y;have e:D6z (u5 ⟨a0,a1,a2,a3,a4⟩) (u5 ⟨b0,b1,b2,b3,b4⟩)=[UInt64.ofNat a0+(9007199254740988-UInt64.ofNat b0)-72,UInt64.ofNat a1+(9007199254740988-UInt64.ofNat b1),UInt64.ofNat a2+(9007199254740988-UInt64.ofNat b2),UInt64.ofNat a3+(9007199254740988-UInt64.ofNat b3),UInt64.ofNat a4+(9007199254740988-UInt64.ofNat b4)]:=rfl;unfold Es;rw[e];rw[D3r,A6z,A6z,A6z,A6z];exact B6h _ _ _ _ _
theorem Jd (n:Nat) (x:N5):Dl n (u5 x)=u5 (Xr n x):=by
 induction n with
 | zero=>rfl
 | succ n ih=>show fsq (Dl n (u5 x))=_;rw[ih,A9r];rfl
def B9g (a:N5):N5:=Z4 (Xr 2 (sqN a)) a
def Yl (a:N5):N5:=Z4 (B9g a) (sqN a)
def n5 (a:N5):N5:=Z4 (sqN (Yl a)) (B9g a)
def n10 (a:N5):N5:=Z4 (Xr 5 (n5 a)) (n5 a)
def n20 (a:N5):N5:=Z4 (Xr 10 (n10 a)) (n10 a)
def n50 (a:N5):N5:=Z4 (Xr 10 (Z4 (Xr 20 (n20 a)) (n20 a))) (n10 a)
def D5u (a:N5):N5:=Z4 (Xr 50 (n50 a)) (n50 a)
def B8u (a:N5):N5:=Z4 (Xr 50 (Z4 (Xr 100 (D5u a)) (D5u a))) (n50 a)
def C6n (a:N5):N5:=Z4 (Xr 5 (B8u a)) (Yl a)
theorem B9w (a:N5):A2j (u5 a)=u5 (B9g a):=by unfold A2j B9g;simp only[A9r,Jd,Az]
theorem A5y (a:N5):Fx (u5 a)=u5 (Yl a):=by unfold Fx Yl;simp only[B9w,A9r,Jd,Az]
theorem F5y (a:N5):f5 (u5 a)=u5 (n5 a):=by unfold f5 n5;simp only[B9w,A5y,A9r,Jd,Az]
theorem D8p (a:N5):f10 (u5 a)=u5 (n10 a):=by unfold f10 n10;simp only[F5y,Jd,Az]
theorem E5x (a:N5):f20 (u5 a)=u5 (n20 a):=by unfold f20 n20;simp only[D8p,Jd,Az]
theorem D8a (a:N5):f50 (u5 a)=u5 (n50 a):=by unfold f50 n50;simp only[D8p,E5x,Jd,Az]
theorem D9i (a:N5):A2x (u5 a)=u5 (D5u a):=by unfold A2x D5u;simp only[D8a,Jd,Az]
theorem B9j (a:N5):Qe (u5 a)=u5 (B8u a):=by unfold Qe B8u;simp only[D8a,D9i,Jd,Az]
theorem C7c (a:N5):Vk (u5 a)=u5 (C6n a):=by unfold Vk C6n;simp only[B9j,A5y,Jd,Az]
structure PN where
 x:N5
 y:N5
 z:N5
 t:N5
def uP (p:PN):Pn:=⟨u5 p.x,u5 p.y,u5 p.z,u5 p.t⟩
def A0s (p q:PN) (k:N5):PN:=
 let a:=Z4 (Sk p.y p.x) (Sk q.y q.x)
 let b:=Z4 (Lv p.y p.x) (Lv q.y q.x)
 let c:=Z4 (Z4 p.t k) q.t
 let d:=Z4 p.z q.z
 let d2:=Lv d d
 let e:=Sk b a
 let f:=Sk d2 c
 let g:=Lv d2 c
 let h:=Lv b a
 ⟨Z4 e f,Z4 g h,Z4 f g,Z4 e h⟩
def dbN (p:PN):PN:=
 let a:=Z4 p.x p.x
 let b:=Z4 p.y p.y
 let c:=Z4 p.z p.z
 let h:=Lv a b
 let s:=Lv p.x p.y
 let e:=Sk h (Z4 s s)
 let g:=Sk a b
 let f:=Lv (Lv c c) g
 ⟨Z4 e f,Z4 g h,Z4 f g,Z4 e h⟩
theorem Tk (p q:PN) (k:N5):Fv (uP p) (uP q) (u5 k)=uP (A0s p q k):=by
 unfold Fv uP A0s;simp only[Az,A8g,Ro]
theorem C9n (p:PN):Ob (uP p)=uP (dbN p):=by
 unfold Ob uP dbN;simp only[Az,A8g,Ro]
theorem D1g:(([]:List UInt64)==[])=true:=rfl
def z5N (x:N5):Bool:=(N7 x.a).beq 0&&((N7 x.b).beq 0&&((N7 x.c).beq 0&&((N7 x.d).beq 0&&(N7 x.e).beq 0)))
def zPN (p:PN):Bool:=z5N p.x&&(z5N p.y&&(z5N p.z&&z5N p.t))
theorem D7c (a:Nat):(UInt64.ofNat a==0)=(N7 a).beq 0:=by
 rw[Bool.eq_iff_iff,beq_iff_eq,Nat.beq_eq,←UInt64.toNat_inj,J2];rfl
theorem D7d (x:N5):(u5 x==J7 5)=z5N x:=by
 show ([UInt64.ofNat x.a,UInt64.ofNat x.b,UInt64.ofNat x.c,UInt64.ofNat x.d,UInt64.ofNat x.e]==[0,0,0,0,0])=_;simp only[List.cons_beq_cons,D1g,D7c,Bool.and_true];rfl
theorem F7g (p:PN):((uP p).row==J7 20)=zPN p:=by
 have e:∀(a b c d:List UInt64),a.length=5→b.length=5→c.length=5→d.length=5→(ptl a b c d==J7 20)=((a==J7 5)&&((b==J7 5)&&((c==J7 5)&&(d==J7 5)))):=by
  intro a b c d ha hb hc hd;match a,b,c,d,ha,hb,hc,hd with
  | [a0,a1,a2,a3,a4],[b0,b1,b2,b3,b4],[c0,c1,c2,c3,c4],[d0,d1,d2,d3,d4],_,_,_,_=>
   show ([a0,a1,a2,a3,a4,b0,b1,b2,b3,b4,c0,c1,c2,c3,c4,d0,d1,d2,d3,d4]==[0,0,0,0,0,0,0,0,0,0,0,0,0,0,0,0,0,0,0,0])=(([a0,a1,a2,a3,a4]==[0,0,0,0,0])&&(([b0,b1,b2,b3,b4]==[0,0,0,0,0])&&(([c0,c1,c2,c3,c4]==[0,0,0,0,0])&&([d0,d1,d2,d3,d4]==[0,0,0,0,0]))));simp only[List.cons_beq_cons,D1g,Bool.true_and,Bool.and_true,Bool.and_assoc]
 unfold Pn.row uP zPN;rw[e _ _ _ _ rfl rfl rfl rfl,D7d,D7d,D7d,D7d]
def A2f:N5:=⟨1,0,0,0,0⟩
def Cv:N5:=⟨0,0,0,0,0⟩
theorem B9s:Z9 1=u5 A2f:=by decide +kernel
theorem B5n:Z9 0=u5 Cv:=by decide +kernel
def Yx (x y:N5):PN:=⟨x,y,A2f,Z4 x y⟩
theorem Ps (x y:N5):V8 (u5 x) (u5 y)=uP (Yx x y):=by unfold V8 uP Yx;simp only[Az,B9s]
def Dx (p:PN):PN:=if zPN p then Yx Cv A2f else p
theorem Ht (p:PN):N8 (uP p)=uP (Dx p):=by
 unfold N8 Dx;rw[F7g];split
 ·rw[B9s,B5n,Ps]
 ·rfl
def E1g (p:PN):PN:=⟨Sk Cv (Dx p).x,(Dx p).y,(Dx p).z,Sk Cv (Dx p).t⟩
theorem C9b (p:PN):A6h (uP p)=uP (E1g p):=by
 unfold A6h E1g;rw[Ht,B5n];unfold uP;simp only[Ro]
def C9o (k:N5) (p q:PN):PN:=A0s (Dx p) (Dx q) k
theorem D9t {k:N5} (hk:T3=u5 k) (p q:PN):B1n (uP p) (uP q)=uP (C9o k p q):=by
 unfold B1n C9o;rw[Ht,Ht,hk,Tk]
def D7t (x y:N5):List UInt8:=if A1u (u5 x) then (M7 (u5 y)).set 31 (g8 (M7 (u5 y)) 31 ||| 128) else M7 (u5 y)
def A0b (p:PN):List UInt8:=D7t (Z4 (Dx p).x (C6n (Dx p).z)) (Z4 (Dx p).y (C6n (Dx p).z))
theorem Yk (p:PN):Eh (uP p)=A0b p:=by
 unfold Eh A0b B3r D7t;rw[Ht];unfold uP;simp only[C7c,Az]
def D1n:Nat→PN→PN
 | 0,p=>p
 | q+1,p=>dbN (D1n q p)
theorem E2r (q:Nat) (p:PN):Xq q (uP p)=uP (D1n q p):=by
 induction q with
 | zero=>rfl
 | succ q ih=>show Ob (Xq q (uP p))=_;rw[ih,C9n];rfl
def B8l (k:N5) (p:PN):Nat→PN
 | 0=>Yx Cv A2f
 | 1=>Dx p
 | i+2=>A0s (B8l k p (i+1)) (Dx p) k
theorem Qy:N8 Af=uP (Yx Cv A2f):=by
 have:Af=uP ⟨Cv,Cv,Cv,Cv⟩:=rfl;rw[this,Ht];rfl
theorem B4k (k:N5) (p:PN):∀i,B5k (uP p) (u5 k) i=uP (B8l k p i)
 | 0=>Qy
 | 1=>Ht p
 | i+2=>by show Fv (B5k (uP p) (u5 k) (i+1)) (N8 (uP p)) (u5 k)=_;rw[B4k k p (i+1),Ht,Tk];rfl
def B7i (k:N5) (b:PN) (n:List UInt8) (p:PN) (m:List UInt8):Nat→PN
 | 0=>Yx Cv A2f
 | i+1=>A0s (A0s (D1n 4 (B7i k b n p m i)) (B8l k b (dg n (63-i))) k) (B8l k p (dg m (63-i))) k
theorem A6x {k:N5} {b:PN} (hk:T3=u5 k) (hb:U6=uP b) (n:List UInt8) (p:PN) (m:List UInt8):∀i,Mf n (uP p) m i=uP (B7i k b n p m i)
 | 0=>by
  show Du (Ax U6 T3) 0=_;rw[Vy (by decide)];exact Qy
 | i+1=>by
  show Fv (Fv (Xq 4 (Mf n (uP p) m i)) (Du (Ax U6 T3) (dg n (63-i))) T3) (Du (Ax (uP p) T3) (dg m (63-i))) T3=_;rw[Vy (B3m _ _),Vy (B3m _ _),A6x hk hb n p m i,hk,hb,B4k,B4k,E2r,Tk,Tk];rfl
def B9u (k:N5):Nat→PN→PN
 | 0,p=>p
 | q+1,p=>C9o k (B9u k q p) (B9u k q p)
theorem C5u {k:N5} (hk:T3=u5 k) (p:PN):∀q,A1b q (uP p)=uP (B9u k q p)
 | 0=>rfl
 | q+1=>by show B1n (A1b q (uP p)) (A1b q (uP p))=_;rw[C5u hk p q,D9t hk];rfl
def B6c (k:N5) (p:PN):Bool:=A0b (B9u k 3 p)==h1 1
theorem B3s {k:N5} (hk:T3=u5 k) (p:PN):Jb (uP p)=B6c k p:=by unfold Jb B6c;rw[C5u hk,Yk]
def B9a (l:List PN) (i:Nat):PN:=l.getD i ⟨Cv,Cv,Cv,Cv⟩
def Na (k:N5) (l:List PN) (n:List UInt8) (s:Nat) (r:PN):Nat→PN
 | 0=>r
 | i+1=>if C2b n i s then A0s (Na k l n s r i) (B9a l i) k else Na k l n s r i
def Su (k:N5) (l:List PN) (n:List UInt8):Nat→PN
 | 0=>Yx Cv A2f
 | m+1=>Na k l n (7-m) (dbN (Su k l n m)) 32
theorem Uw {k:N5} {l:List PN} (hk:T3=u5 k) (hl:∀i,i<32→Fj i=uP (B9a l i)) (n:List UInt8) (s:Nat) (r:PN):∀i,i≤32→U0 n s (uP r) i=uP (Na k l n s r i)
 | 0,_=>rfl
 | i+1,hi=>by
  unfold U0 Na;split
  ·rw[Uw hk hl n s r i (by omega),hl i (by omega),hk,Tk]
  ·exact Uw hk hl n s r i (by omega)
theorem A9v {k:N5} {l:List PN} (hk:T3=u5 k) (hl:∀i,i<32→Fj i=uP (B9a l i)) (n:List UInt8):∀m,Bd n m=uP (Su k l n m)
 | 0=>Qy
 | m+1=>by
  show U0 n (7-m) (Ob (Bd n m)) 32=_;rw[A9v hk hl n m,C9n,Uw hk hl _ _ _ _ (Nat.le_refl _)];rfl
def rWN (u v:N5):N5:=Z4 u (C6n v)
def C5h (u v:N5):N5:=Z4 (Xr 2 (B8u (rWN u v))) (sqN (rWN u v))
def B9y (x w:N5):Bool:=M7 (u5 (Z4 x x))==M7 (u5 w)
def C5n:N5:=⟨1718705420411056,234908883556509,2233514472574048,2117202627021982,765476049583133⟩
theorem D3v:Jk=u5 C5n:=rfl
def D3k (u v:N5):N5:=if B9y (C5h u v) (rWN u v) then C5h u v else Z4 (C5h u v) C5n
def D2c (x:N5):N5:=if A1u (u5 x) then Sk Cv x else x
def rBN (u v:N5):Bool:=!(M7 (u5 v)==z8 32)&&B9y (D3k u v) (rWN u v)
def rLN (u v:N5):N5:=if rBN u v then D2c (D3k u v) else Cv
theorem A7t (u v:N5):Wl (u5 u) (u5 v)=u5 (rWN u v):=by unfold Wl rWN;simp only[C7c,Az]
theorem D0b (u v:N5):Qk (u5 u) (u5 v)=u5 (C5h u v):=by unfold Qk C5h;simp only[A7t,B9j,Jd,A9r,Az]
theorem C7m (x w:N5):A7k (u5 x) (u5 w)=B9y x w:=by unfold A7k B9y;rw[Az]
theorem B0c (u v:N5):Hj (u5 u) (u5 v)=u5 (D3k u v):=by
 unfold Hj D3k;rw[D0b,A7t,C7m,D3v,Az];split<;>rfl
theorem E0z (x:N5):B6f (u5 x)=u5 (D2c x):=by
 unfold B6f D2c;have:J7 5=u5 Cv:=rfl;rw[this,Ro];split<;>rfl
theorem C0a (u v:N5):Cm (u5 u) (u5 v)=rBN u v:=by unfold Cm rBN;rw[B0c,A7t,C7m]
theorem D2z (u v:N5):Qj (u5 u) (u5 v)=u5 (rLN u v):=by
 unfold Qj rLN;rw[C0a,B0c,E0z];split<;>rfl
def C5s (kd y:N5):N5:=rLN (Sk (Z4 y y) A2f) (Lv (Z4 (Z4 y y) kd) A2f)
def B8n (kd y:N5):Bool:=rBN (Sk (Z4 y y) A2f) (Lv (Z4 (Z4 y y) kd) A2f)
theorem D2a {b:List UInt8} {kd y:N5} (hd:dee=u5 kd) (hy:Tf b=u5 y):Uf b=u5 (C5s kd y):=by
 unfold Uf C5s Zo A0a;rw[hy,hd,B9s];simp only[Az,Ro,A8g,D2z]
theorem D3n {b:List UInt8} {kd y:N5} (hd:dee=u5 kd) (hy:Tf b=u5 y):Cm (Zo b) (A0a b)=B8n kd y:=by
 unfold B8n Zo A0a;rw[hy,hd,B9s];simp only[Az,Ro,A8g,C0a]
theorem C0u {b:List UInt8} {kd y x:N5} (hd:dee=u5 kd) (hy:Tf b=u5 y) (hx:Uf b=u5 x) (h1:Lp (Tz b)=true) (h2:B8n kd y=true) (h3:(Ja b&&M7 (u5 x)==z8 32)=false):Cq b=true:=by
 unfold Cq;rw[D3n hd hy,h1,h2,hx,h3];rfl
theorem C5l {b:List UInt8} {y x:N5} (ho:Cq b=true) (hy:Tf b=u5 y) (hx:Uf b=u5 x):Ci b=uP (Yx (if Ja b then Sk Cv x else x) y):=by
 unfold Ci;rw[if_pos ho,hx,hy,B5n,Ro];split<;>exact Ps _ _
section
def eq5 (x y:N5):Bool:=Nat.beq x.a y.a&&(Nat.beq x.b y.b&&(Nat.beq x.c y.c&&(Nat.beq x.d y.d&&Nat.beq x.e y.e)))
theorem Qz {x y:N5} (h:eq5 x y=true):x=y:=by
 obtain⟨a,b,c,d,e⟩:=x;obtain⟨a',b',c',d',e'⟩:=y;simp only[eq5,Bool.and_eq_true,Nat.beq_eq]at h;obtain⟨rfl,rfl,rfl,rfl,rfl⟩:=h;rfl
def eqP (p q:PN):Bool:=eq5 p.x q.x&&(eq5 p.y q.y&&(eq5 p.z q.z&&eq5 p.t q.t))
theorem A0t {p q:PN} (h:eqP p q=true):p=q:=by
 obtain⟨a,b,c,d⟩:=p;obtain⟨a',b',c',d'⟩:=q;simp only[eqP,Bool.and_eq_true]at h;rw[Qz h.1,Qz h.2.1,Qz h.2.2.1,Qz h.2.2.2]
set_option maxRecDepth 100000
set_option maxHeartbeats 0
def E1s:N5:=⟨929955233495203,466365720129213,1662059464998953,2033849074728123,1442794654840575⟩
def A4z:N5:=⟨1859910466990425,932731440258426,1072319116312658,1815898335770999,633789495995903⟩
def Zc:PN:=⟨⟨1738742601995546,1146398526822698,2070867633025821,562264141797630,587772402128613⟩,⟨1801439850948184,1351079888211148,450359962737049,900719925474099,1801439850948198⟩,⟨1,0,0,0,0⟩,⟨1841354044333475,16398895984059,755974180946558,900171276175154,1821297809914039⟩⟩
theorem B8q:dee=u5 E1s:=by decide +kernel
theorem A2d:T3=u5 A4z:=by decide +kernel
theorem D5z:P5 A0d=u5 Zc.x:=by decide +kernel
theorem D6t:P5 A2c=u5 Zc.y:=by decide +kernel
theorem D6v:eq5 (Z4 Zc.x Zc.y) Zc.t=true:=by decide +kernel
theorem C7t:U6=uP Zc:=by
 show V8 (P5 A0d) (P5 A2c)=_;rw[D5z,D6t,Ps];unfold Yx;rw[Qz D6v];rfl
def A9m (row:List UInt8) (k:Nat):UInt8:=Oy (g8 row (2*k)) <<< 4 ||| Oy (g8 row (2*k+1))
theorem B9b (l:List UInt8) (n j:Nat):g8 (l.drop n) j=g8 l (n+j):=by
 unfold g8;rw[List.getD_eq_getElem?_getD,List.getD_eq_getElem?_getD,List.getElem?_drop]
theorem C4a (i:Nat):B8s i=Fm (A9m (J6.drop (128*i))) 64 64:=by
 unfold B8s;have:U9 i=A9m (J6.drop (128*i)):=by
  funext k;unfold U9 A9m;rw[B9b,B9b];rfl
 rw[this]
noncomputable def O9 (i:Nat) (p:PN):Bool:=P5 (E1 (Fm (A9m (J6.drop (128*i))) 64 64) 0)==u5 p.x&&(P5 (E1 (Fm (A9m (J6.drop (128*i))) 64 64) 32)==u5 p.y&&eqP (Yx p.x p.y) p)
theorem L6 {i:Nat} {p:PN} (h:O9 i p=true):Fj i=uP p:=by
 unfold O9 at h;simp only[Bool.and_eq_true,beq_iff_eq]at h;unfold Fj;rw[C4a,h.1,h.2.1,Ps,A0t h.2.2]
def kL0:PN:=⟨⟨1738742601995546,1146398526822698,2070867633025821,562264141797630,587772402128613⟩,⟨1801439850948184,1351079888211148,450359962737049,900719925474099,1801439850948198⟩,⟨1,0,0,0,0⟩,⟨1841354044333475,16398895984059,755974180946558,900171276175154,1821297809914039⟩⟩
def kL1:PN:=⟨⟨207657587877206,2100806663644183,634766761317859,1794349103177875,1662326270124510⟩,⟨1161296182310599,941340786753986,2054541528034550,348227273872704,269755449941776⟩,⟨1,0,0,0,0⟩,⟨956558613127806,218246011415390,1471725144979126,911638385797892,1757616091032277⟩⟩
def kL2:PN:=⟨⟨1521219502450021,1846410879841235,34313878798212,10546997869797,1652014780966119⟩,⟨1658952464264246,301281990073328,1421351965663984,1976190811556149,784992082977218⟩,⟨1,0,0,0,0⟩,⟨892904545274529,1276862129681126,2227823945098524,1198975692454157,531459573462592⟩⟩
def kL3:PN:=⟨⟨227770048461431,487879623988285,1417664382069336,21120743092234,192648498818915⟩,⟨489485269993669,31434140373030,662742595234372,520860463613287,581679651492685⟩,⟨1,0,0,0,0⟩,⟨440709916510127,606245067725176,575712091139983,1665763122282094,1396451099334619⟩⟩
def kL4:PN:=⟨⟨2137057258114235,578737412616802,222102366986352,1234677837468596,1356664587499029⟩,⟨1722913527544090,2088871461428873,1128366041178413,803942221589082,1922039712175331⟩,⟨1,0,0,0,0⟩,⟨643056839880049,523898651151534,204380683349760,1233102105443002,2156664000083962⟩⟩
def kL5:PN:=⟨⟨1285304317579493,539645416220191,1912192162872302,1488507247591807,271320221614130⟩,⟨78734827152218,1357852017365999,290905538263157,908753962904692,1078524239176568⟩,⟨1,0,0,0,0⟩,⟨1377163577851704,1450974270990480,1438768082383222,73739011122910,715982777037845⟩⟩
def kL6:PN:=⟨⟨2139631458254162,114745178815772,1087650998417340,1304905119131584,1454119089317820⟩,⟨1848586308489622,611786136704735,745684036015187,324537442443163,1422099643653513⟩,⟨1,0,0,0,0⟩,⟨289958792114194,1718243155014068,618410686050882,2148570867678717,2200768563603231⟩⟩
def kL7:PN:=⟨⟨54901458865636,727536360848802,1177631862964415,1689752924059193,2003135700883297⟩,⟨373003406320657,975674768844653,407736244583094,1999031378370391,1009852647415928⟩,⟨1,0,0,0,0⟩,⟨1775725816775503,1049202381591688,1875336355828115,1273325138276258,1490320459503170⟩⟩
def kL8:PN:=⟨⟨962690963841538,2210719638316993,706068330177389,1384191282407386,1726421572252383⟩,⟨1964103625364243,307116021699043,120882883216088,20816463754899,55369446368493⟩,⟨1,0,0,0,0⟩,⟨1568907369646169,514127314339263,40774287502072,1976251032040224,1733588893334842⟩⟩
def kL9:PN:=⟨⟨1071545802964639,1907633890512027,1590806793797968,801793450737153,552650580738272⟩,⟨147714283167257,991334929770036,740594144646985,1359930762689594,2104011130007174⟩,⟨1,0,0,0,0⟩,⟨1753093361894213,1521233125158248,1386128832987038,1088053247760158,193516695534830⟩⟩
def E9t:PN:=⟨⟨513161589821684,135189712591322,268115112334192,732346932090735,1698600094179178⟩,⟨1926627679356154,546033803356952,1665378458738264,1140574075214145,1041362083641741⟩,⟨1,0,0,0,0⟩,⟨1353416909210792,1517015454331480,809582929435518,2005509998263633,1154861397913715⟩⟩
def F0y:PN:=⟨⟨1739414694272229,1521928877555375,1503334770669637,763386956585108,1862129073046365⟩,⟨1268802689912462,967753215362474,632928647924378,938581088869778,1093383925776355⟩,⟨1,0,0,0,0⟩,⟨1439619040869311,122358970891288,2003741039041763,1571825034906733,1553939020907850⟩⟩
def F0i:PN:=⟨⟨1228065289500112,1995656439401154,747490468072570,1771782479153808,1441803220130225⟩,⟨1133256506751681,1971401122869232,364740748818945,274858525947676,944245750712036⟩,⟨1,0,0,0,0⟩,⟨969799468763409,758675615912443,164497183604933,410658007103705,1365606147138959⟩⟩
def E9a:PN:=⟨⟨2050219849394447,2136640035013897,682111103158185,1698971002258475,442296111034018⟩,⟨558048773939678,897533695604502,1035891336244684,1945051063646027,220875155027932⟩,⟨1,0,0,0,0⟩,⟨136528770899845,637133720221738,1127633800314291,1677182430025837,1482130520813037⟩⟩
def E9d:PN:=⟨⟨513905658590587,680817969573829,1150970882872061,354648524841429,1182660725187364⟩,⟨1687245214141198,1499423053851412,1198492387236350,1278757245406394,1918084130941870⟩,⟨1,0,0,0,0⟩,⟨13131300766877,2018180793845027,437449436518264,116732650814892,1368575053372683⟩⟩
def F1g:PN:=⟨⟨124475054908452,1906983202879951,611701698187204,1873527664260246,1365903236220276⟩,⟨1978406422605413,1915091176750658,961916202316503,396934785157585,866421071701821⟩,⟨1,0,0,0,0⟩,⟨417773349695347,1654602006188621,985389090556103,1189633363629426,288170139646185⟩⟩
def F2r:PN:=⟨⟨78814272546852,343446598238096,1469662686845463,446722075312752,1339733442806879⟩,⟨770831939905131,1066752177064823,855905013023480,1194941381303059,1674322643330780⟩,⟨1,0,0,0,0⟩,⟨2025065385374602,84441031851324,1769310306558354,26295680040963,99051874860870⟩⟩
def F1x:PN:=⟨⟨2248752024183766,708723593180029,1256489519620460,1977762733290583,2173540277402287⟩,⟨356808580336773,889637948668713,2118215992267087,2196570670553569,497367236949540⟩,⟨1,0,0,0,0⟩,⟨637585733359542,1435081831225848,1456442193699608,1717437606507251,1447466321451996⟩⟩
def E8w:PN:=⟨⟨2102370904129425,9421038388327,922877803622304,1730456536722459,762334075187381⟩,⟨427580487847279,1800861300174619,848721725908694,1905002686634420,2174839152969707⟩,⟨1,0,0,0,0⟩,⟨268052600032300,1676250763249512,1344774212489870,1877856504985088,1551852259475401⟩⟩
def E5v:PN:=⟨⟨73949236156954,243328099540869,285103069684975,535059367582198,507523117579041⟩,⟨81762443123683,437772300968419,104708665526234,1600664443758511,2153009907310332⟩,⟨1,0,0,0,0⟩,⟨525185820960592,2109162826897277,1727597431782170,94579111876036,1943291465670801⟩⟩
def E9e:PN:=⟨⟨1007523394043953,877179782120715,750791257494571,1684193508924439,1481971162173362⟩,⟨892412035198752,724888969399762,189791939055799,650037373814668,58891993572333⟩,⟨1,0,0,0,0⟩,⟨2012424166711840,1051009010171064,985378134251402,340978745693086,76576796701879⟩⟩
def E5d:PN:=⟨⟨1221600705668234,422433434344282,1165451223563677,146148415932141,2233882774218833⟩,⟨27130515852506,1042767501773405,1627152082831711,2158630032433998,279351529642523⟩,⟨1,0,0,0,0⟩,⟨399543236321792,304278115101828,1696822803913734,1638181959782862,1187398200262185⟩⟩
def F2u:PN:=⟨⟨1707106071538538,1034947591101305,1883622717070250,2247368448221425,79795392053140⟩,⟨1911252298510640,413658976450780,1847058117559766,170234544819720,1035923066070357⟩,⟨1,0,0,0,0⟩,⟨1620168465800920,853903694194838,1629795986498023,449057437180843,773788728556441⟩⟩
def F0a:PN:=⟨⟨705317732516645,1259080967901750,110596001674658,152606910492821,257476921021274⟩,⟨2000400530866971,1099125665712498,1961944974262476,155981950177417,1046917659734111⟩,⟨1,0,0,0,0⟩,⟨730820343861142,1746061691430809,1882659248310344,918803715970310,1070778979244388⟩⟩
def F1d:PN:=⟨⟨798540852548237,1186388878089071,554557418141563,2038592377592718,488711206961541⟩,⟨833812069173299,646939731425630,1538221673810424,2137163637965756,1721356815521377⟩,⟨1,0,0,0,0⟩,⟨76009751102151,1911895294413367,1262509771121608,1445197895593765,460973337299855⟩⟩
def E5q:PN:=⟨⟨54500732029931,1229228649591394,1395999898189729,1718070411837384,1664301080442019⟩,⟨1903443165125547,559438718436641,993492825524625,534768921454925,1413903496556256⟩,⟨1,0,0,0,0⟩,⟨120803451939400,1228462511466555,1825422928562560,2073882328972608,1338393801812170⟩⟩
def E8c:PN:=⟨⟨2009719025433307,1338026402858380,368645885213984,1305913578656784,900000752165226⟩,⟨901384702181433,618421315369192,1461922630708682,1786955284772872,769606372041141⟩,⟨1,0,0,0,0⟩,⟨2237692444171697,2144656409190513,1435531634016049,1875943125805625,1458226165828182⟩⟩
def F0q:PN:=⟨⟨1290284552533580,149109026735730,152217355613238,1936628254954832,289514889573986⟩,⟨545116827004962,24791008572662,666030275103494,2077271970883202,731991509874304⟩,⟨1,0,0,0,0⟩,⟨682751199693311,2090280524683502,1447319815966402,753208601256438,2019644203483639⟩⟩
def E7r:PN:=⟨⟨66253276699711,1252511340070009,2001984381343139,1811095600397663,2073215811985677⟩,⟨1623460295322413,1593143032869612,1227910477134078,174031738331835,1854653122047196⟩,⟨1,0,0,0,0⟩,⟨378835871973892,862775089586864,2213372231758376,1367038889672674,1837642890635372⟩⟩
def E9r:PN:=⟨⟨855109427260935,1192666648398113,1070509169023896,49743400943463,2059455722217761⟩,⟨1868326402194645,1731588568080711,734486077860206,1792565842527341,1694206596449169⟩,⟨1,0,0,0,0⟩,⟨1030568103689263,1717414762294505,1289812983312952,428593515366431,1052052483814347⟩⟩
def E9j:PN:=⟨⟨1078783740036999,198946038155516,1242334275692922,1915693194367353,716690677826317⟩,⟨1158255922756604,2050076295205690,816279270940781,485560714163174,1498485971338264⟩,⟨1,0,0,0,0⟩,⟨949271686208484,1835219553732856,1146775173265892,2161931743141499,1913301798815708⟩⟩
def F0c:PN:=⟨⟨302555565364767,1820588068919652,772267205884354,1865066538047563,1551475371085944⟩,⟨1996585736328222,70826822300604,211627457424574,562895043924503,1826585557779011⟩,⟨1,0,0,0,0⟩,⟨338531462563851,1655232836796258,315301918780359,145172540828775,2195524900867729⟩⟩
theorem F7o:O9 0 kL0=true:=by decide +kernel
theorem F7z:O9 1 kL1=true:=by decide +kernel
theorem F6e:O9 2 kL2=true:=by decide +kernel
theorem F7w:O9 3 kL3=true:=by decide +kernel
theorem F8e:O9 4 kL4=true:=by decide +kernel
theorem F6f:O9 5 kL5=true:=by decide +kernel
theorem F6v:O9 6 kL6=true:=by decide +kernel
theorem F7j:O9 7 kL7=true:=by decide +kernel
theorem F7x:O9 8 kL8=true:=by decide +kernel
theorem F5r:O9 9 kL9=true:=by decide +kernel
theorem E9h:O9 10 E9t=true:=by decide +kernel
theorem E9w:O9 11 F0y=true:=by decide +kernel
theorem E6p:O9 12 F0i=true:=by decide +kernel
theorem F1z:O9 13 E9a=true:=by decide +kernel
theorem F0w:O9 14 E9d=true:=by decide +kernel
theorem E6u:O9 15 F1g=true:=by decide +kernel
theorem F1b:O9 16 F2r=true:=by decide +kernel
theorem E5l:O9 17 F1x=true:=by decide +kernel
theorem F1p:O9 18 E8w=true:=by decide +kernel
theorem E7t:O9 19 E5v=true:=by decide +kernel
theorem E9v:O9 20 E9e=true:=by decide +kernel
theorem F2v:O9 21 E5d=true:=by decide +kernel
theorem E9b:O9 22 F2u=true:=by decide +kernel
theorem E7k:O9 23 F0a=true:=by decide +kernel
theorem E7i:O9 24 F1d=true:=by decide +kernel
theorem E9z:O9 25 E5q=true:=by decide +kernel
theorem F2k:O9 26 E8c=true:=by decide +kernel
theorem E6o:O9 27 F0q=true:=by decide +kernel
theorem F0l:O9 28 E7r=true:=by decide +kernel
theorem F2g:O9 29 E9r=true:=by decide +kernel
theorem F2q:O9 30 E9j=true:=by decide +kernel
theorem F0p:O9 31 F0c=true:=by decide +kernel
def D6j:List PN:=[kL0,kL1,kL2,kL3,kL4,kL5,kL6,kL7,kL8,kL9,E9t,F0y,F0i,E9a,E9d,F1g,F2r,F1x,E8w,E5v,E9e,E5d,F2u,F0a,F1d,E5q,E8c,F0q,E7r,E9r,E9j,F0c]
theorem E8x:∀i,i<32→Fj i=uP (B9a D6j i):=by
 intro i hi;match i,hi with
 | 0,_=>exact L6 F7o
 | 1,_=>exact L6 F7z
 | 2,_=>exact L6 F6e
 | 3,_=>exact L6 F7w
 | 4,_=>exact L6 F8e
 | 5,_=>exact L6 F6f
 | 6,_=>exact L6 F6v
 | 7,_=>exact L6 F7j
 | 8,_=>exact L6 F7x
 | 9,_=>exact L6 F5r
 | 10,_=>exact L6 E9h
 | 11,_=>exact L6 E9w
 | 12,_=>exact L6 E6p
 | 13,_=>exact L6 F1z
 | 14,_=>exact L6 F0w
 | 15,_=>exact L6 E6u
 | 16,_=>exact L6 F1b
 | 17,_=>exact L6 E5l
 | 18,_=>exact L6 F1p
 | 19,_=>exact L6 E7t
 | 20,_=>exact L6 E9v
 | 21,_=>exact L6 F2v
 | 22,_=>exact L6 E9b
 | 23,_=>exact L6 E7k
 | 24,_=>exact L6 E7i
 | 25,_=>exact L6 E9z
 | 26,_=>exact L6 F2k
 | 27,_=>exact L6 E6o
 | 28,_=>exact L6 F0l
 | 29,_=>exact L6 F2g
 | 30,_=>exact L6 F2q
 | 31,_=>exact L6 F0p
 | n+32,h=>exact absurd h (by omega)
theorem Tm {n:List UInt8} {q:PN} {b:List UInt8} (h:Su A4z D6j n 8=q) (e:(A0b q==b)=true):Eh (Ur U6 n)=b:=by
 have h1:Ur U6 n=A2m n:=A9b n (beq_self_eq_true _);rw[h1];show Eh (Bd n 8)=b;rw[A9v A2d E8x,h,Yk];exact eq_of_beq e
end
structure Ev where
 A:List UInt8
 S:List UInt8
 B:List UInt8
 M:List UInt8
 F:List UInt8
 RB:List UInt8
 KB:List UInt8
 SB:List UInt8
 R:List UInt64
 K:List UInt64
 Y:N5
 X:N5
 P:PN
 Q:PN
noncomputable def Ev.c1 (e:Ev) (sd ky:List UInt8):Bool:=Ib sd==e.A&&(A7y sd==e.S&&(Ie 1 (Fl 1 ky)==e.M&&(A0l [e.S,e.M]==e.R&&(Bt e.R==e.RB&&A0l [e.F,e.B,e.M]==e.K))))
noncomputable def Ev.c2 (e:Ev):Bool:=A0b (Su A4z D6j e.A 8)==e.B
noncomputable def Ev.c3 (e:Ev):Bool:=A0b (Su A4z D6j e.RB 8)==e.F
noncomputable def Ev.c4 (e:Ev):Bool:=Bt (B7o e.R (B7n e.K (Kt e.A)))==e.SB&&(Tf e.B==u5 e.Y&&(eq5 (C5s E1s e.Y) e.X&&(Lp (Tz e.B)&&(B8n E1s e.Y&&(!(Ja e.B&&M7 (u5 e.X)==z8 32)&&(eqP (Yx (if Ja e.B then Sk Cv e.X else e.X) e.Y) e.P && !B6c A4z e.P))))))
noncomputable def Ev.c5 (e:Ev):Bool:=eqP (E1g e.P) e.Q&&(E1 (e.F++e.SB) 0==e.F&&(E1 (e.F++e.SB) 32==e.SB&&(Lr e.SB&&(Bt (Iu e.SB)==e.SB&&Bt e.K==e.KB))))
noncomputable def Ev.c6 (e:Ev):Bool:=A0b (B7i A4z Zc e.SB e.Q e.KB 64)==e.F
theorem Ev.upd {e:Ev} {sd ky:List UInt8} (h1:e.c1 sd ky=true) (h2:e.c2=true) (h3:e.c3=true) (h4:e.c4=true) (h5:e.c5=true) (h6:e.c6=true) :
 mkU sd 1 ky=⟨e.B,1,ky,e.F++e.SB⟩∧Z5 (mkU sd 1 ky)=true:=by
 simp only[Ev.c1,Ev.c2,Ev.c3,Ev.c4,Ev.c5,Ev.c6,Bool.and_eq_true,beq_iff_eq,Bool.not_eq_true']at h1 h2 h3 h4 h5 h6;obtain⟨a1,a2,a3,a4,a5,a6⟩:=h1;obtain⟨b1,b3,b4,b5,b6,b7,b8,b9⟩:=h4;obtain⟨d1,d2,d3,d4,d5,d6⟩:=h5;have aB:X0 sd=e.B:=by unfold X0;rw[a1];exact Tm rfl (by rw[h2];exact beq_self_eq_true _)
 have r:sgR sd [e.M]=e.R:=by unfold sgR;rw[a2,a4]
 have f:sgF sd [e.M]=e.F:=by unfold sgF;rw[r,a5];exact Tm rfl (by rw[h3];exact beq_self_eq_true _)
 have k:sgK sd [e.M]=e.K:=by unfold sgK;rw[f,aB,a6]
 have s:sgS sd [e.M]=e.SB:=by unfold sgS;rw[r,k,a1,b1]
 have sg:Pz sd [e.M]=e.F++e.SB:=by unfold Pz;rw[f,s]
 have Xp:mkU sd 1 ky=⟨e.B,1,ky,e.F++e.SB⟩:=by unfold mkU Fw;rw[aB,a3,sg]
 have x:Uf e.B=u5 e.X:=by rw[D2a B8q b3,Qz b4]
 have ok:Cq e.B=true:=C0u B8q b3 x b5 b6 b7;have p:Ci e.B=uP e.P:=by rw[C5l ok b3 x,A0t b8]
 have aA:Jb (Ci e.B)=false:=by rw[p,B3s A2d];exact b9
 have vf:vfH e.B (e.F++e.SB) [e.M]=e.F:=by unfold vfH vfK;rw[d2,d3,a6,d5,d6,p,C9b,A0t d1];show Eh (Mf e.SB (uP e.Q) e.KB 64)=e.F;rw[A6x A2d C7t,Yk];exact h6
 refine ⟨Xp,?_⟩;rw[Xp,A1x rfl rfl];show Cz e.B 1 (Fl 1 ky) (e.F++e.SB)=true;unfold Cz;rw[a3];unfold Cy;rw[ok,aA,d3,d4,vf,d2];simp
section
set_option maxRecDepth 100000
set_option maxHeartbeats 0
def eu9:Ev:=⟨[200,12,38,94,204,130,221,140,238,110,86,206,68,228,93,175,215,160,197,117,13,249,20,178,83,161,251,122,138,246,109,91],[153,118,54,7,240,168,93,11,212,54,105,25,74,58,64,87,122,82,138,243,149,244,241,126,6,241,222,252,198,222,178,165],[206,204,21,7,220,29,221,114,149,149,28,41,8,136,240,149,173,185,4,77,27,115,214,150,230,223,6,93,104,59,212,252],[119,105,116,97,110,1,0,0,0,0,0,0,0,40,0,0,0,0,0,0,0,1,2,0,0,0,0,0,0,0,0,0,0,0,0,0,0,0,0,0,0,0,0,0,0,0,0,0,0,0,0,0,0,0],[64,101,153,252,184,252,127,12,178,104,81,213,210,93,225,110,129,25,57,11,233,232,78,111,238,98,161,158,158,160,9,221],[167,252,29,139,182,217,45,132,98,137,196,27,99,180,115,68,110,202,10,208,71,8,74,92,133,143,5,193,177,247,82,15],[214,238,226,20,71,240,237,40,73,55,30,53,211,205,43,118,196,138,196,95,192,113,100,57,43,128,41,30,173,73,71,15],[32,243,253,161,234,217,59,155,58,20,160,32,162,85,10,218,5,180,99,46,43,65,14,16,108,211,123,246,150,20,197,13],[9524508164999740583,4932484354661452130,6650136904292026990,1104217201478832005],[2949277519081303766,8515125827487020873,4135555428887333572,1100929641799581739],⟨1440205732433102,287125319888475,1146682017825312,2237830084005286,2196015545700461⟩,⟨626536395482458,295576395633887,1336003373205109,698547845527882,1208567494868599⟩,⟨⟨1625263418202771,1956223418051360,915796440480138,1553251968157365,1043232318816648⟩,⟨1440205732433102,287125319888475,1146682017825312,2237830084005286,2196015545700461⟩,⟨1,0,0,0,0⟩,⟨243950350799911,1923543989867015,1055101283805844,742455266160301,82920972177670⟩⟩,⟨⟨626536395482458,295576395633887,1336003373205109,698547845527882,1208567494868599⟩,⟨1440205732433102,287125319888475,1146682017825312,2237830084005286,2196015545700461⟩,⟨1,0,0,0,0⟩,⟨2007849462885318,328255823818232,1196698529879403,1509344547524946,2168878841507577⟩⟩⟩
theorem E6b:mkU (h1 1) 1 (h1 2)=⟨eu9.B,1,h1 2,eu9.F++eu9.SB⟩∧Z5 (mkU (h1 1) 1 (h1 2))=true:=Ev.upd (by decide +kernel) (by decide +kernel) (by decide +kernel) (by decide +kernel) (by decide +kernel) (by decide +kernel)
end
end Go.Proofs.YtdfpoofbgjilgaaGreat
