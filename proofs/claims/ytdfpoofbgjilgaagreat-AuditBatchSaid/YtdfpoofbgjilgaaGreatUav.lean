/- A part of the proof of AuditBatch. -/
import Derived.Test.YtdfpoofbgjilgaaGreatUat
set_option linter.unusedVariables false
set_option linter.unusedSimpArgs false
set_option maxRecDepth 100000
set_option maxHeartbeats 40000000
namespace Go.Proofs.YtdfpoofbgjilgaaGreat
open Go Go.RowKit Sh
structure N5 where
 a:Nat
 b:Nat
 c:Nat
 d:Nat
 e:Nat
def u5 (x:N5):List UInt64:=[UInt64.ofNat x.a,UInt64.ofNat x.b,UInt64.ofNat x.c,UInt64.ofNat x.d,UInt64.ofNat x.e]
def D3g (x0 x1 x2 x3 x4:Nat):N5:=
 ⟨Nat.add (Nat.mod x0 2251799813685248) (Nat.mul 19 (Nat.div (Nat.mod x4 18446744073709551616) 2251799813685248)),
  Nat.add (Nat.mod x1 2251799813685248) (Nat.div (Nat.mod x0 18446744073709551616) 2251799813685248),
  Nat.add (Nat.mod x2 2251799813685248) (Nat.div (Nat.mod x1 18446744073709551616) 2251799813685248),
  Nat.add (Nat.mod x3 2251799813685248) (Nat.div (Nat.mod x2 18446744073709551616) 2251799813685248),
  Nat.add (Nat.mod x4 2251799813685248) (Nat.div (Nat.mod x3 18446744073709551616) 2251799813685248)⟩
def D6b (t0 t1 t2 t3 t4:Nat):N5:=
 D3g (Nat.add (Nat.mod t0 2251799813685248) (Nat.mul 19 (Nat.div t4 2251799813685248)))
  (Nat.add (Nat.mod t1 2251799813685248) (Nat.div t0 2251799813685248))
  (Nat.add (Nat.mod t2 2251799813685248) (Nat.div t1 2251799813685248))
  (Nat.add (Nat.mod t3 2251799813685248) (Nat.div t2 2251799813685248))
  (Nat.add (Nat.mod t4 2251799813685248) (Nat.div t3 2251799813685248))
def C4g (a b c d e:Nat):Nat:=Nat.add (Nat.add (Nat.add (Nat.add a b) c) d) e
def O6 (x:Nat):Nat:=Nat.mod x 18446744073709551616
def E9z (a0 a1 a2 a3 a4 b0 b1 b2 b3 b4 n1 n2 n3 n4:Nat):N5:=
 D6b (C4g (Nat.mul a0 b0) (Nat.mul n1 b4) (Nat.mul n2 b3) (Nat.mul n3 b2) (Nat.mul n4 b1))
  (C4g (Nat.mul a0 b1) (Nat.mul a1 b0) (Nat.mul n2 b4) (Nat.mul n3 b3) (Nat.mul n4 b2))
  (C4g (Nat.mul a0 b2) (Nat.mul a1 b1) (Nat.mul a2 b0) (Nat.mul n3 b4) (Nat.mul n4 b3))
  (C4g (Nat.mul a0 b3) (Nat.mul a1 b2) (Nat.mul a2 b1) (Nat.mul a3 b0) (Nat.mul n4 b4))
  (C4g (Nat.mul a0 b4) (Nat.mul a1 b3) (Nat.mul a2 b2) (Nat.mul a3 b1) (Nat.mul a4 b0))
def Z6 (x y:N5):N5:=
 E9z (O6 x.a) (O6 x.b) (O6 x.c) (O6 x.d) (O6 x.e) (O6 y.a) (O6 y.b) (O6 y.c) (O6 y.d) (O6 y.e)
  (O6 (Nat.mul 19 x.b)) (O6 (Nat.mul 19 x.c)) (O6 (Nat.mul 19 x.d)) (O6 (Nat.mul 19 x.e))
def sqG (a0 a1 a2 a3 a4 d0 d1 d2 d3 n3 n4:Nat):N5:=
 D6b (Nat.add (Nat.add (Nat.mul a0 a0) (Nat.mul d1 n4)) (Nat.mul d2 n3))
  (Nat.add (Nat.add (Nat.mul d0 a1) (Nat.mul d2 n4)) (Nat.mul a3 n3))
  (Nat.add (Nat.add (Nat.mul d0 a2) (Nat.mul a1 a1)) (Nat.mul d3 n4))
  (Nat.add (Nat.add (Nat.mul d0 a3) (Nat.mul d1 a2)) (Nat.mul a4 n4))
  (Nat.add (Nat.add (Nat.mul d0 a4) (Nat.mul d1 a3)) (Nat.mul a2 a2))
def sqN (x:N5):N5:=
 sqG (O6 x.a) (O6 x.b) (O6 x.c) (O6 x.d) (O6 x.e) (O6 (Nat.mul 2 x.a)) (O6 (Nat.mul 2 x.b)) (O6 (Nat.mul 2 x.c)) (O6 (Nat.mul 2 x.d)) (O6 (Nat.mul 19 x.d)) (O6 (Nat.mul 19 x.e))
def Lv (x y:N5):N5:=D3g (Nat.add x.a y.a) (Nat.add x.b y.b) (Nat.add x.c y.c) (Nat.add x.d y.d) (Nat.add x.e y.e)
def Ud (x y:N5):N5:=
 D3g (Nat.add x.a (Nat.sub 18455751272964292532 (O6 y.a))) (Nat.add x.b (Nat.sub 18455751272964292604 (O6 y.b))) (Nat.add x.c (Nat.sub 18455751272964292604 (O6 y.c))) (Nat.add x.d (Nat.sub 18455751272964292604 (O6 y.d))) (Nat.add x.e (Nat.sub 18455751272964292604 (O6 y.e)))
def Xx:Nat→N5→N5
 | 0,a=>a
 | q+1,a=>sqN (Xx q a)
def d2 (n:Nat):List UInt64:=[UInt64.ofNat (n / 18446744073709551616),UInt64.ofNat n]
theorem J8 (n:Nat):(UInt64.ofNat n).toNat=n % 18446744073709551616:=UInt64.toNat_ofNat' ..
theorem Rj (a b:Nat):UInt64.ofNat a+UInt64.ofNat b=UInt64.ofNat (a+b):=by
 apply UInt64.toNat_inj.1;rw[UInt64.toNat_add,J8,J8,J8];omega
theorem A8f (a b:Nat):UInt64.ofNat a*UInt64.ofNat b=UInt64.ofNat (a*b):=by
 apply UInt64.toNat_inj.1;rw[UInt64.toNat_mul,J8,J8,J8];exact (Nat.mul_mod _ _ _).symm
theorem P6 (a:Nat):UInt64.ofNat (O6 a)=UInt64.ofNat a:=by
 apply UInt64.toNat_inj.1;rw[J8,J8];show a % 18446744073709551616 % 18446744073709551616=_;omega
theorem D0d (a:Nat):UInt64.ofNat a &&& (2251799813685247:UInt64)=UInt64.ofNat (a % 2251799813685248):=by
 apply UInt64.toNat_inj.1;rw[UInt64.toNat_and,J8,J8];rw[show (2251799813685247:UInt64).toNat=2 ^ 51-1 from rfl,Nat.and_two_pow_sub_one_eq_mod];omega
theorem D8j (a:Nat):UInt64.ofNat a >>> (51:UInt64)=UInt64.ofNat (a % 18446744073709551616 / 2251799813685248):=by
 apply UInt64.toNat_inj.1;rw[UInt64.toNat_shiftRight,J8,J8,show (51:UInt64).toNat % 64=51 from rfl,Nat.shiftRight_eq_div_pow];omega
theorem B9y (x y:Nat) (hx:x<18446744073709551616) (hy:y<18446744073709551616):Ly (UInt64.ofNat x) (UInt64.ofNat y)=d2 (x*y):=by
 unfold Ly B0t d2;rw[A8f,J8,J8,Nat.mod_eq_of_lt hx,Nat.mod_eq_of_lt hy]
theorem B0f (n x y:Nat) (hx:x<18446744073709551616) (hy:y<18446744073709551616):U5 (d2 n) (UInt64.ofNat x) (UInt64.ofNat y)=d2 (n+x*y):=by
 have e0:E7 (d2 n) 0=UInt64.ofNat (n / 18446744073709551616):=rfl;have e1:E7 (d2 n) 1=UInt64.ofNat n:=rfl;unfold U5;rw[e0,e1];unfold d2 Vx A0d B0t;have z:(0:UInt64)=UInt64.ofNat 0:=rfl;rw[A8f,J8,J8,J8,J8,Nat.mod_eq_of_lt hx,Nat.mod_eq_of_lt hy,z,J8,Rj,Rj,Rj,Rj];generalize x*y=p;have:UInt64.ofNat (p / 18446744073709551616+n / 18446744073709551616+(p % 18446744073709551616+n % 18446744073709551616+0 % 18446744073709551616) / 18446744073709551616)=UInt64.ofNat ((n+p) / 18446744073709551616):=by congr 1;omega
 rw[this];congr 2;congr 1;omega
theorem D2l (n:Nat):over (d2 n)=UInt64.ofNat (n / 2251799813685248):=by
 have e0:E7 (d2 n) 0=UInt64.ofNat (n / 18446744073709551616):=rfl;have e1:E7 (d2 n) 1=UInt64.ofNat n:=rfl;unfold over;rw[e0,e1];apply UInt64.toNat_inj.1;rw[UInt64.toNat_or,UInt64.toNat_shiftLeft,UInt64.toNat_shiftRight,J8,J8,J8,show (51:UInt64).toNat % 64=51 from rfl,show (13:UInt64).toNat % 64=13 from rfl,Nat.shiftRight_eq_div_pow,Nat.shiftLeft_eq];have e:n / 18446744073709551616 % 18446744073709551616*2 ^ 13 % 2 ^ 64=(n / 18446744073709551616 % 2251799813685248) <<< 13:=by rw[Nat.shiftLeft_eq];omega
 rw[e,←Nat.shiftLeft_add_eq_or_of_lt (by omega),Nat.shiftLeft_eq];omega
theorem D6f (n:Nat):E7 (d2 n) 1 &&& (2251799813685247:UInt64)=UInt64.ofNat (n % 2251799813685248):=D0d n
theorem Ax (a:Nat):19*UInt64.ofNat a=UInt64.ofNat (19*a):=A8f 19 a
theorem A6s (a:Nat):2*UInt64.ofNat a=UInt64.ofNat (2*a):=A8f 2 a
theorem B4f (x0 x1 x2 x3 x4:Nat):Gg [UInt64.ofNat x0,UInt64.ofNat x1,UInt64.ofNat x2,UInt64.ofNat x3,UInt64.ofNat x4]=u5 (D3g x0 x1 x2 x3 x4):=by
 show [(UInt64.ofNat x0 &&& (2251799813685247:UInt64))+19*(UInt64.ofNat x4 >>> (51:UInt64)),(UInt64.ofNat x1 &&& (2251799813685247:UInt64))+UInt64.ofNat x0 >>> (51:UInt64),(UInt64.ofNat x2 &&& (2251799813685247:UInt64))+UInt64.ofNat x1 >>> (51:UInt64),(UInt64.ofNat x3 &&& (2251799813685247:UInt64))+UInt64.ofNat x2 >>> (51:UInt64),(UInt64.ofNat x4 &&& (2251799813685247:UInt64))+UInt64.ofNat x3 >>> (51:UInt64)]=_;simp only[D0d,D8j,Ax,Rj];rfl
theorem C4l (t0 t1 t2 t3 t4:Nat):Nc (d2 t0) (d2 t1) (d2 t2) (d2 t3) (d2 t4)=u5 (D6b t0 t1 t2 t3 t4):=by
 unfold Nc D7l;simp only[D6f,D2l,Ax,Rj];rw[B4f];rfl
theorem Od (a:Nat):O6 a<18446744073709551616:=Nat.mod_lt _ (by decide)
theorem Bd (x y:N5):L6 (u5 x) (u5 y)=u5 (Z6 x y):=by
 obtain⟨a0,a1,a2,a3,a4⟩:=x;obtain⟨b0,b1,b2,b3,b4⟩:=y;have e0:E7 (u5 ⟨a0,a1,a2,a3,a4⟩) 0=UInt64.ofNat (O6 a0):=(P6 _).symm;have e1:E7 (u5 ⟨a0,a1,a2,a3,a4⟩) 1=UInt64.ofNat (O6 a1):=(P6 _).symm;have e2:E7 (u5 ⟨a0,a1,a2,a3,a4⟩) 2=UInt64.ofNat (O6 a2):=(P6 _).symm;have e3:E7 (u5 ⟨a0,a1,a2,a3,a4⟩) 3=UInt64.ofNat (O6 a3):=(P6 _).symm;have e4:E7 (u5 ⟨a0,a1,a2,a3,a4⟩) 4=UInt64.ofNat (O6 a4):=(P6 _).symm;have f0:E7 (u5 ⟨b0,b1,b2,b3,b4⟩) 0=UInt64.ofNat (O6 b0):=(P6 _).symm;have f1:E7 (u5 ⟨b0,b1,b2,b3,b4⟩) 1=UInt64.ofNat (O6 b1):=(P6 _).symm;have f2:E7 (u5 ⟨b0,b1,b2,b3,b4⟩) 2=UInt64.ofNat (O6 b2):=(P6 _).symm;have f3:E7 (u5 ⟨b0,b1,b2,b3,b4⟩) 3=UInt64.ofNat (O6 b3):=(P6 _).symm;have f4:E7 (u5 ⟨b0,b1,b2,b3,b4⟩) 4=UInt64.ofNat (O6 b4):=(P6 _).symm;have n1:19*UInt64.ofNat (O6 a1)=UInt64.ofNat (O6 (Nat.mul 19 a1)):=by rw[P6,P6];exact Ax _
 have n2:19*UInt64.ofNat (O6 a2)=UInt64.ofNat (O6 (Nat.mul 19 a2)):=by rw[P6,P6];exact Ax _
 have n3:19*UInt64.ofNat (O6 a3)=UInt64.ofNat (O6 (Nat.mul 19 a3)):=by rw[P6,P6];exact Ax _
 have n4:19*UInt64.ofNat (O6 a4)=UInt64.ofNat (O6 (Nat.mul 19 a4)):=by rw[P6,P6];exact Ax _
 unfold L6 B7b B4w B7p B5t B4t;rw[e0,e1,e2,e3,e4,f0,f1,f2,f3,f4,n1,n2,n3,n4];unfold Z6 E9z;dsimp only;simp only[B9y _ _ (Od _) (Od _),B0f _ _ _ (Od _) (Od _)];exact C4l _ _ _ _ _
theorem B0h (x:N5):fsq (u5 x)=u5 (sqN x):=by
 obtain⟨a0,a1,a2,a3,a4⟩:=x;have e0:E7 (u5 ⟨a0,a1,a2,a3,a4⟩) 0=UInt64.ofNat (O6 a0):=(P6 _).symm;have e1:E7 (u5 ⟨a0,a1,a2,a3,a4⟩) 1=UInt64.ofNat (O6 a1):=(P6 _).symm;have e2:E7 (u5 ⟨a0,a1,a2,a3,a4⟩) 2=UInt64.ofNat (O6 a2):=(P6 _).symm;have e3:E7 (u5 ⟨a0,a1,a2,a3,a4⟩) 3=UInt64.ofNat (O6 a3):=(P6 _).symm;have e4:E7 (u5 ⟨a0,a1,a2,a3,a4⟩) 4=UInt64.ofNat (O6 a4):=(P6 _).symm;have n3:19*UInt64.ofNat (O6 a3)=UInt64.ofNat (O6 (Nat.mul 19 a3)):=by rw[P6,P6];exact Ax _
 have n4:19*UInt64.ofNat (O6 a4)=UInt64.ofNat (O6 (Nat.mul 19 a4)):=by rw[P6,P6];exact Ax _
 have m0:2*UInt64.ofNat (O6 a0)=UInt64.ofNat (O6 (Nat.mul 2 a0)):=by rw[P6,P6];exact A6s _
 have m1:2*UInt64.ofNat (O6 a1)=UInt64.ofNat (O6 (Nat.mul 2 a1)):=by rw[P6,P6];exact A6s _
 have m2:2*UInt64.ofNat (O6 a2)=UInt64.ofNat (O6 (Nat.mul 2 a2)):=by rw[P6,P6];exact A6s _
 have m3:2*UInt64.ofNat (O6 a3)=UInt64.ofNat (O6 (Nat.mul 2 a3)):=by rw[P6,P6];exact A6s _
 unfold fsq C4e C9q C9v C4k C6c;rw[e0,e1,e2,e3,e4,m0,m1,m2,m3,n3,n4];unfold sqN sqG;dsimp only;simp only[B9y _ _ (Od _) (Od _),B0f _ _ _ (Od _) (Od _)];exact C4l _ _ _ _ _
theorem A7b (x y:N5):Ex (u5 x) (u5 y)=u5 (Lv x y):=by
 obtain⟨a0,a1,a2,a3,a4⟩:=x;obtain⟨b0,b1,b2,b3,b4⟩:=y;have e:D7r (u5 ⟨a0,a1,a2,a3,a4⟩) (u5 ⟨b0,b1,b2,b3,b4⟩)=[UInt64.ofNat a0+UInt64.ofNat b0,UInt64.ofNat a1+UInt64.ofNat b1,UInt64.ofNat a2+UInt64.ofNat b2,UInt64.ofNat a3+UInt64.ofNat b3,UInt64.ofNat a4+UInt64.ofNat b4]:=rfl;unfold Ex;rw[e];simp only[Rj];exact B4f _ _ _ _ _
theorem A6n (a b:Nat):UInt64.ofNat a+(9007199254740988-UInt64.ofNat b)=UInt64.ofNat (a+(18455751272964292604-O6 b)):=by
 apply UInt64.toNat_inj.1;rw[UInt64.toNat_add,UInt64.toNat_sub,J8,J8,J8];have:(9007199254740988:UInt64).toNat=9007199254740988:=rfl;rw[this];show _=(a+(18455751272964292604-b % 18446744073709551616)) % 18446744073709551616;omega
theorem D1z (a b:Nat):UInt64.ofNat a+(9007199254740988-UInt64.ofNat b)-72=UInt64.ofNat (a+(18455751272964292532-O6 b)):=by
 apply UInt64.toNat_inj.1;rw[UInt64.toNat_sub,UInt64.toNat_add,UInt64.toNat_sub,J8,J8,J8];have:(9007199254740988:UInt64).toNat=9007199254740988:=rfl;rw[this];have:(72:UInt64).toNat=72:=rfl;rw[this];show _=(a+(18455751272964292532-b % 18446744073709551616)) % 18446744073709551616;omega
theorem Rl (x y:N5):Fm (u5 x) (u5 y)=u5 (Ud x y):=by
 obtain⟨a0,a1,a2,a3,a4⟩:=x;obtain⟨b0,b1,b2,b3,b4⟩:=y;have e:D8h (u5 ⟨a0,a1,a2,a3,a4⟩) (u5 ⟨b0,b1,b2,b3,b4⟩)=[UInt64.ofNat a0+(9007199254740988-UInt64.ofNat b0)-72,UInt64.ofNat a1+(9007199254740988-UInt64.ofNat b1),UInt64.ofNat a2+(9007199254740988-UInt64.ofNat b2),UInt64.ofNat a3+(9007199254740988-UInt64.ofNat b3),UInt64.ofNat a4+(9007199254740988-UInt64.ofNat b4)]:=rfl;unfold Fm;rw[e];rw[D1z,A6n,A6n,A6n,A6n];exact B4f _ _ _ _ _
theorem Iz (n:Nat) (x:N5):Du n (u5 x)=u5 (Xx n x):=by
 induction n with
 | zero=>rfl
 | succ n ih=>show fsq (Du n (u5 x))=_;rw[ih,B0h];rfl
def B9q (a:N5):N5:=Z6 (Xx 2 (sqN a)) a
def Yx (a:N5):N5:=Z6 (B9q a) (sqN a)
def n5 (a:N5):N5:=Z6 (sqN (Yx a)) (B9q a)
def n10 (a:N5):N5:=Z6 (Xx 5 (n5 a)) (n5 a)
def n20 (a:N5):N5:=Z6 (Xx 10 (n10 a)) (n10 a)
def n50 (a:N5):N5:=Z6 (Xx 10 (Z6 (Xx 20 (n20 a)) (n20 a))) (n10 a)
def D4d (a:N5):N5:=Z6 (Xx 50 (n50 a)) (n50 a)
def B9l (a:N5):N5:=Z6 (Xx 50 (Z6 (Xx 100 (D4d a)) (D4d a))) (n50 a)
def C5w (a:N5):N5:=Z6 (Xx 5 (B9l a)) (Yx a)
theorem B8c (a:N5):A4e (u5 a)=u5 (B9q a):=by unfold A4e B9q;simp only[B0h,Iz,Bd]
theorem A4o (a:N5):Ix (u5 a)=u5 (Yx a):=by unfold Ix Yx;simp only[B8c,B0h,Iz,Bd]
theorem F2i (a:N5):f5 (u5 a)=u5 (n5 a):=by unfold f5 n5;simp only[B8c,A4o,B0h,Iz,Bd]
theorem D4r (a:N5):f10 (u5 a)=u5 (n10 a):=by unfold f10 n10;simp only[F2i,Iz,Bd]
theorem E9r (a:N5):f20 (u5 a)=u5 (n20 a):=by unfold f20 n20;simp only[D4r,Iz,Bd]
theorem D5c (a:N5):f50 (u5 a)=u5 (n50 a):=by unfold f50 n50;simp only[D4r,E9r,Iz,Bd]
theorem D8o (a:N5):A8l (u5 a)=u5 (D4d a):=by unfold A8l D4d;simp only[D5c,Iz,Bd]
theorem B9j (a:N5):Tm (u5 a)=u5 (B9l a):=by unfold Tm B9l;simp only[D5c,D8o,Iz,Bd]
theorem C9u (a:N5):Xt (u5 a)=u5 (C5w a):=by unfold Xt C5w;simp only[B9j,A4o,Iz,Bd]
structure PN where
 x:N5
 y:N5
 z:N5
 t:N5
def uP (p:PN):Pn:=⟨u5 p.x,u5 p.y,u5 p.z,u5 p.t⟩
def Zq (p q:PN) (k:N5):PN:=
 let a:=Z6 (Ud p.y p.x) (Ud q.y q.x)
 let b:=Z6 (Lv p.y p.x) (Lv q.y q.x)
 let c:=Z6 (Z6 p.t k) q.t
 let d:=Z6 p.z q.z
 let d2:=Lv d d
 let e:=Ud b a
 let f:=Ud d2 c
 let g:=Lv d2 c
 let h:=Lv b a
 ⟨Z6 e f,Z6 g h,Z6 f g,Z6 e h⟩
def dbN (p:PN):PN:=
 let a:=Z6 p.x p.x
 let b:=Z6 p.y p.y
 let c:=Z6 p.z p.z
 let h:=Lv a b
 let s:=Lv p.x p.y
 let e:=Ud h (Z6 s s)
 let g:=Ud a b
 let f:=Lv (Lv c c) g
 ⟨Z6 e f,Z6 g h,Z6 f g,Z6 e h⟩
theorem Sw (p q:PN) (k:N5):Fz (uP p) (uP q) (u5 k)=uP (Zq p q k):=by
 unfold Fz uP Zq;simp only[Bd,A7b,Rl]
theorem C5s (p:PN):Oo (uP p)=uP (dbN p):=by
 unfold Oo uP dbN;simp only[Bd,A7b,Rl]
theorem C8q:(([]:List UInt64)==[])=true:=rfl
def z5N (x:N5):Bool:=(O6 x.a).beq 0&&((O6 x.b).beq 0&&((O6 x.c).beq 0&&((O6 x.d).beq 0&&(O6 x.e).beq 0)))
def zPN (p:PN):Bool:=z5N p.x&&(z5N p.y&&(z5N p.z&&z5N p.t))
theorem D1u (a:Nat):(UInt64.ofNat a==0)=(O6 a).beq 0:=by
 rw[Bool.eq_iff_iff,beq_iff_eq,Nat.beq_eq,←UInt64.toNat_inj,J8];rfl
theorem D0x (x:N5):(u5 x==O8 5)=z5N x:=by
 show ([UInt64.ofNat x.a,UInt64.ofNat x.b,UInt64.ofNat x.c,UInt64.ofNat x.d,UInt64.ofNat x.e]==[0,0,0,0,0])=_;simp only[List.cons_beq_cons,C8q,D1u,Bool.and_true];rfl
theorem F3y (p:PN):((uP p).row==O8 20)=zPN p:=by
 have e:∀(a b c d:List UInt64),a.length=5→b.length=5→c.length=5→d.length=5→(ptl a b c d==O8 20)=((a==O8 5)&&((b==O8 5)&&((c==O8 5)&&(d==O8 5)))):=by
  intro a b c d ha hb hc hd;match a,b,c,d,ha,hb,hc,hd with
  | [a0,a1,a2,a3,a4],[b0,b1,b2,b3,b4],[c0,c1,c2,c3,c4],[d0,d1,d2,d3,d4],_,_,_,_=>
   show ([a0,a1,a2,a3,a4,b0,b1,b2,b3,b4,c0,c1,c2,c3,c4,d0,d1,d2,d3,d4]==[0,0,0,0,0,0,0,0,0,0,0,0,0,0,0,0,0,0,0,0])=(([a0,a1,a2,a3,a4]==[0,0,0,0,0])&&(([b0,b1,b2,b3,b4]==[0,0,0,0,0])&&(([c0,c1,c2,c3,c4]==[0,0,0,0,0])&&([d0,d1,d2,d3,d4]==[0,0,0,0,0]))));simp only[List.cons_beq_cons,C8q,Bool.true_and,Bool.and_true,Bool.and_assoc]
 unfold Pn.row uP zPN;rw[e _ _ _ _ rfl rfl rfl rfl,D0x,D0x,D0x,D0x]
def Zr:N5:=⟨1,0,0,0,0⟩
def Ct:N5:=⟨0,0,0,0,0⟩
theorem B9o:Ap 1=u5 Zr:=by decide +kernel
theorem B6c:Ap 0=u5 Ct:=by decide +kernel
def Yy (x y:N5):PN:=⟨x,y,Zr,Z6 x y⟩
theorem Po (x y:N5):Y0 (u5 x) (u5 y)=uP (Yy x y):=by unfold Y0 uP Yy;simp only[Bd,B9o]
def Ea (p:PN):PN:=if zPN p then Yy Ct Zr else p
theorem He (p:PN):P4 (uP p)=uP (Ea p):=by
 unfold P4 Ea;rw[F3y];split
 ·rw[B9o,B6c,Po]
 ·rfl
def D6w (p:PN):PN:=⟨Ud Ct (Ea p).x,(Ea p).y,(Ea p).z,Ud Ct (Ea p).t⟩
theorem D6u (p:PN):A8m (uP p)=uP (D6w p):=by
 unfold A8m D6w;rw[He,B6c];unfold uP;simp only[Rl]
def C7h (k:N5) (p q:PN):PN:=Zq (Ea p) (Ea q) k
theorem D7b {k:N5} (hk:U4=u5 k) (p q:PN):B0n (uP p) (uP q)=uP (C7h k p q):=by
 unfold B0n C7h;rw[He,He,hk,Sw]
def D5j (x y:N5):List UInt8:=if A0o (u5 x) then (N8 (u5 y)).set 31 (g8 (N8 (u5 y)) 31 ||| 128) else N8 (u5 y)
def Xk (p:PN):List UInt8:=D5j (Z6 (Ea p).x (C5w (Ea p).z)) (Z6 (Ea p).y (C5w (Ea p).z))
theorem A8x (p:PN):Fv (uP p)=Xk p:=by
 unfold Fv Xk B2e D5j;rw[He];unfold uP;simp only[C9u,Bd]
def C9z:Nat→PN→PN
 | 0,p=>p
 | q+1,p=>dbN (C9z q p)
theorem D7u (q:Nat) (p:PN):Xv q (uP p)=uP (C9z q p):=by
 induction q with
 | zero=>rfl
 | succ q ih=>show Oo (Xv q (uP p))=_;rw[ih,C5s];rfl
def B9k (k:N5) (p:PN):Nat→PN
 | 0=>Yy Ct Zr
 | 1=>Ea p
 | i+2=>Zq (B9k k p (i+1)) (Ea p) k
theorem Sa:P4 Aj=uP (Yy Ct Zr):=by
 have:Aj=uP ⟨Ct,Ct,Ct,Ct⟩:=rfl;rw[this,He];rfl
theorem B7n (k:N5) (p:PN):∀i,B4p (uP p) (u5 k) i=uP (B9k k p i)
 | 0=>Sa
 | 1=>He p
 | i+2=>by show Fz (B4p (uP p) (u5 k) (i+1)) (P4 (uP p)) (u5 k)=_;rw[B7n k p (i+1),He,Sw];rfl
def B5k (k:N5) (b:PN) (n:List UInt8) (p:PN) (m:List UInt8):Nat→PN
 | 0=>Yy Ct Zr
 | i+1=>Zq (Zq (C9z 4 (B5k k b n p m i)) (B9k k b (dg n (63-i))) k) (B9k k p (dg m (63-i))) k
theorem B8v {k:N5} {b:PN} (hk:U4=u5 k) (hb:X5=uP b) (n:List UInt8) (p:PN) (m:List UInt8):∀i,Qp n (uP p) m i=uP (B5k k b n p m i)
 | 0=>by
  show Eb (Ay X5 U4) 0=_;rw[Uw (by decide)];exact Sa
 | i+1=>by
  show Fz (Fz (Xv 4 (Qp n (uP p) m i)) (Eb (Ay X5 U4) (dg n (63-i))) U4) (Eb (Ay (uP p) U4) (dg m (63-i))) U4=_;rw[Uw (B1z _ _),Uw (B1z _ _),B8v hk hb n p m i,hk,hb,B7n,B7n,D7u,Sw,Sw];rfl
def B8n (k:N5):Nat→PN→PN
 | 0,p=>p
 | q+1,p=>C7h k (B8n k q p) (B8n k q p)
theorem C4q {k:N5} (hk:U4=u5 k) (p:PN):∀q,A1y q (uP p)=uP (B8n k q p)
 | 0=>rfl
 | q+1=>by show B0n (A1y q (uP p)) (A1y q (uP p))=_;rw[C4q hk p q,D7b hk];rfl
def B5y (k:N5) (p:PN):Bool:=Xk (B8n k 3 p)==h1 1
theorem C4s {k:N5} (hk:U4=u5 k) (p:PN):Kt (uP p)=B5y k p:=by unfold Kt B5y;rw[C4q hk,A8x]
def B8w (l:List PN) (i:Nat):PN:=l.getD i ⟨Ct,Ct,Ct,Ct⟩
def Nd (k:N5) (l:List PN) (n:List UInt8) (s:Nat) (r:PN):Nat→PN
 | 0=>r
 | i+1=>if C2b n i s then Zq (Nd k l n s r i) (B8w l i) k else Nd k l n s r i
def Pu (k:N5) (l:List PN) (n:List UInt8):Nat→PN
 | 0=>Yy Ct Zr
 | m+1=>Nd k l n (7-m) (dbN (Pu k l n m)) 32
theorem Wm {k:N5} {l:List PN} (hk:U4=u5 k) (hl:∀i,i<32→Fo i=uP (B8w l i)) (n:List UInt8) (s:Nat) (r:PN):∀i,i≤32→X2 n s (uP r) i=uP (Nd k l n s r i)
 | 0,_=>rfl
 | i+1,hi=>by
  unfold X2 Nd;split
  ·rw[Wm hk hl n s r i (by omega),hl i (by omega),hk,Sw]
  ·exact Wm hk hl n s r i (by omega)
theorem B2y {k:N5} {l:List PN} (hk:U4=u5 k) (hl:∀i,i<32→Fo i=uP (B8w l i)) (n:List UInt8):∀m,Bc n m=uP (Pu k l n m)
 | 0=>Sa
 | m+1=>by
  show X2 n (7-m) (Oo (Bc n m)) 32=_;rw[B2y hk hl n m,C5s,Wm hk hl _ _ _ _ (Nat.le_refl _)];rfl
def rWN (u v:N5):N5:=Z6 u (C5w v)
def C7x (u v:N5):N5:=Z6 (Xx 2 (B9l (rWN u v))) (sqN (rWN u v))
def B9e (x w:N5):Bool:=N8 (u5 (Z6 x x))==N8 (u5 w)
def C5o:N5:=⟨1718705420411056,234908883556509,2233514472574048,2117202627021982,765476049583133⟩
theorem D3n:Nj=u5 C5o:=rfl
def D2y (u v:N5):N5:=if B9e (C7x u v) (rWN u v) then C7x u v else Z6 (C7x u v) C5o
def C9c (x:N5):N5:=if A0o (u5 x) then Ud Ct x else x
def rBN (u v:N5):Bool:=!(N8 (u5 v)==z8 32)&&B9e (D2y u v) (rWN u v)
def rLN (u v:N5):N5:=if rBN u v then C9c (D2y u v) else Ct
theorem A8k (u v:N5):Zi (u5 u) (u5 v)=u5 (rWN u v):=by unfold Zi rWN;simp only[C9u,Bd]
theorem C7y (u v:N5):Vz (u5 u) (u5 v)=u5 (C7x u v):=by unfold Vz C7x;simp only[A8k,B9j,Iz,B0h,Bd]
theorem C5t (x w:N5):A7i (u5 x) (u5 w)=B9e x w:=by unfold A7i B9e;rw[Bd]
theorem B1n (u v:N5):Gt (u5 u) (u5 v)=u5 (D2y u v):=by
 unfold Gt D2y;rw[C7y,A8k,C5t,D3n,Bd];split<;>rfl
theorem D6z (x:N5):B6r (u5 x)=u5 (C9c x):=by
 unfold B6r C9c;have:O8 5=u5 Ct:=rfl;rw[this,Rl];split<;>rfl
theorem B9w (u v:N5):Cx (u5 u) (u5 v)=rBN u v:=by unfold Cx rBN;rw[B1n,A8k,C5t]
theorem D3d (u v:N5):Qf (u5 u) (u5 v)=u5 (rLN u v):=by
 unfold Qf rLN;rw[B9w,B1n,D6z];split<;>rfl
def C7m (kd y:N5):N5:=rLN (Ud (Z6 y y) Zr) (Lv (Z6 (Z6 y y) kd) Zr)
def C0k (kd y:N5):Bool:=rBN (Ud (Z6 y y) Zr) (Lv (Z6 (Z6 y y) kd) Zr)
theorem D8n {b:List UInt8} {kd y:N5} (hd:dee=u5 kd) (hy:Ts b=u5 y):Vm b=u5 (C7m kd y):=by
 unfold Vm C7m A1b A0x;rw[hy,hd,B9o];simp only[Bd,Rl,A7b,D3d]
theorem D1a {b:List UInt8} {kd y:N5} (hd:dee=u5 kd) (hy:Ts b=u5 y):Cx (A1b b) (A0x b)=C0k kd y:=by
 unfold C0k A1b A0x;rw[hy,hd,B9o];simp only[Bd,Rl,A7b,B9w]
theorem D4b {b:List UInt8} {kd y x:N5} (hd:dee=u5 kd) (hy:Ts b=u5 y) (hx:Vm b=u5 x) (h1:Ls (Tf b)=true) (h2:C0k kd y=true) (h3:(Jb b&&N8 (u5 x)==z8 32)=false):Dn b=true:=by
 unfold Dn;rw[D1a hd hy,h1,h2,hx,h3];rfl
theorem D7e {b:List UInt8} {y x:N5} (ho:Dn b=true) (hy:Ts b=u5 y) (hx:Vm b=u5 x):De b=uP (Yy (if Jb b then Ud Ct x else x) y):=by
 unfold De;rw[if_pos ho,hx,hy,B6c,Rl];split<;>exact Po _ _
section
def eq5 (x y:N5):Bool:=Nat.beq x.a y.a&&(Nat.beq x.b y.b&&(Nat.beq x.c y.c&&(Nat.beq x.d y.d&&Nat.beq x.e y.e)))
theorem Vo {x y:N5} (h:eq5 x y=true):x=y:=by
 obtain⟨a,b,c,d,e⟩:=x;obtain⟨a',b',c',d',e'⟩:=y;simp only[eq5,Bool.and_eq_true,Nat.beq_eq]at h;obtain⟨rfl,rfl,rfl,rfl,rfl⟩:=h;rfl
def eqP (p q:PN):Bool:=eq5 p.x q.x&&(eq5 p.y q.y&&(eq5 p.z q.z&&eq5 p.t q.t))
theorem B5c {p q:PN} (h:eqP p q=true):p=q:=by
 obtain⟨a,b,c,d⟩:=p;obtain⟨a',b',c',d'⟩:=q;simp only[eqP,Bool.and_eq_true]at h;rw[Vo h.1,Vo h.2.1,Vo h.2.2.1,Vo h.2.2.2]
set_option maxRecDepth 100000
set_option maxHeartbeats 0
def D8i:N5:=⟨929955233495203,466365720129213,1662059464998953,2033849074728123,1442794654840575⟩
def A0t:N5:=⟨1859910466990425,932731440258426,1072319116312658,1815898335770999,633789495995903⟩
def A1w:PN:=⟨⟨1738742601995546,1146398526822698,2070867633025821,562264141797630,587772402128613⟩,⟨1801439850948184,1351079888211148,450359962737049,900719925474099,1801439850948198⟩,⟨1,0,0,0,0⟩,⟨1841354044333475,16398895984059,755974180946558,900171276175154,1821297809914039⟩⟩
theorem D5m:dee=u5 D8i:=by decide +kernel
theorem B7l:U4=u5 A0t:=by decide +kernel
theorem D2k:Q3 A0h=u5 A1w.x:=by decide +kernel
theorem D1v:Q3 A2m=u5 A1w.y:=by decide +kernel
theorem D0u:eq5 (Z6 A1w.x A1w.y) A1w.t=true:=by decide +kernel
theorem D7d:X5=uP A1w:=by
 show Y0 (Q3 A0h) (Q3 A2m)=_;rw[D2k,D1v,Po];unfold Yy;rw[Vo D0u];rfl
def A9i (row:List UInt8) (k:Nat):UInt8:=Pq (g8 row (2*k)) <<< 4 ||| Pq (g8 row (2*k+1))
theorem B8i (l:List UInt8) (n j:Nat):g8 (l.drop n) j=g8 l (n+j):=by
 unfold g8;rw[List.getD_eq_getElem?_getD,List.getD_eq_getElem?_getD,List.getElem?_drop]
theorem C1k (i:Nat):C0e i=Fl (A9i (M1.drop (128*i))) 64 64:=by
 unfold C0e;have:X8 i=A9i (M1.drop (128*i)):=by
  funext k;unfold X8 A9i;rw[B8i,B8i];rfl
 rw[this]
noncomputable def Q0 (i:Nat) (p:PN):Bool:=Q3 (E1 (Fl (A9i (M1.drop (128*i))) 64 64) 0)==u5 p.x&&(Q3 (E1 (Fl (A9i (M1.drop (128*i))) 64 64) 32)==u5 p.y&&eqP (Yy p.x p.y) p)
theorem M6 {i:Nat} {p:PN} (h:Q0 i p=true):Fo i=uP p:=by
 unfold Q0 at h;simp only[Bool.and_eq_true,beq_iff_eq]at h;unfold Fo;rw[C1k,h.1,h.2.1,Po,B5c h.2.2]
def kL0:PN:=⟨⟨1738742601995546,1146398526822698,2070867633025821,562264141797630,587772402128613⟩,⟨1801439850948184,1351079888211148,450359962737049,900719925474099,1801439850948198⟩,⟨1,0,0,0,0⟩,⟨1841354044333475,16398895984059,755974180946558,900171276175154,1821297809914039⟩⟩
def kL1:PN:=⟨⟨207657587877206,2100806663644183,634766761317859,1794349103177875,1662326270124510⟩,⟨1161296182310599,941340786753986,2054541528034550,348227273872704,269755449941776⟩,⟨1,0,0,0,0⟩,⟨956558613127806,218246011415390,1471725144979126,911638385797892,1757616091032277⟩⟩
def kL2:PN:=⟨⟨1521219502450021,1846410879841235,34313878798212,10546997869797,1652014780966119⟩,⟨1658952464264246,301281990073328,1421351965663984,1976190811556149,784992082977218⟩,⟨1,0,0,0,0⟩,⟨892904545274529,1276862129681126,2227823945098524,1198975692454157,531459573462592⟩⟩
def kL3:PN:=⟨⟨227770048461431,487879623988285,1417664382069336,21120743092234,192648498818915⟩,⟨489485269993669,31434140373030,662742595234372,520860463613287,581679651492685⟩,⟨1,0,0,0,0⟩,⟨440709916510127,606245067725176,575712091139983,1665763122282094,1396451099334619⟩⟩
def kL4:PN:=⟨⟨2137057258114235,578737412616802,222102366986352,1234677837468596,1356664587499029⟩,⟨1722913527544090,2088871461428873,1128366041178413,803942221589082,1922039712175331⟩,⟨1,0,0,0,0⟩,⟨643056839880049,523898651151534,204380683349760,1233102105443002,2156664000083962⟩⟩
def kL5:PN:=⟨⟨1285304317579493,539645416220191,1912192162872302,1488507247591807,271320221614130⟩,⟨78734827152218,1357852017365999,290905538263157,908753962904692,1078524239176568⟩,⟨1,0,0,0,0⟩,⟨1377163577851704,1450974270990480,1438768082383222,73739011122910,715982777037845⟩⟩
def kL6:PN:=⟨⟨2139631458254162,114745178815772,1087650998417340,1304905119131584,1454119089317820⟩,⟨1848586308489622,611786136704735,745684036015187,324537442443163,1422099643653513⟩,⟨1,0,0,0,0⟩,⟨289958792114194,1718243155014068,618410686050882,2148570867678717,2200768563603231⟩⟩
def kL7:PN:=⟨⟨54901458865636,727536360848802,1177631862964415,1689752924059193,2003135700883297⟩,⟨373003406320657,975674768844653,407736244583094,1999031378370391,1009852647415928⟩,⟨1,0,0,0,0⟩,⟨1775725816775503,1049202381591688,1875336355828115,1273325138276258,1490320459503170⟩⟩
def kL8:PN:=⟨⟨962690963841538,2210719638316993,706068330177389,1384191282407386,1726421572252383⟩,⟨1964103625364243,307116021699043,120882883216088,20816463754899,55369446368493⟩,⟨1,0,0,0,0⟩,⟨1568907369646169,514127314339263,40774287502072,1976251032040224,1733588893334842⟩⟩
def kL9:PN:=⟨⟨1071545802964639,1907633890512027,1590806793797968,801793450737153,552650580738272⟩,⟨147714283167257,991334929770036,740594144646985,1359930762689594,2104011130007174⟩,⟨1,0,0,0,0⟩,⟨1753093361894213,1521233125158248,1386128832987038,1088053247760158,193516695534830⟩⟩
def E4e:PN:=⟨⟨513161589821684,135189712591322,268115112334192,732346932090735,1698600094179178⟩,⟨1926627679356154,546033803356952,1665378458738264,1140574075214145,1041362083641741⟩,⟨1,0,0,0,0⟩,⟨1353416909210792,1517015454331480,809582929435518,2005509998263633,1154861397913715⟩⟩
def E8n:PN:=⟨⟨1739414694272229,1521928877555375,1503334770669637,763386956585108,1862129073046365⟩,⟨1268802689912462,967753215362474,632928647924378,938581088869778,1093383925776355⟩,⟨1,0,0,0,0⟩,⟨1439619040869311,122358970891288,2003741039041763,1571825034906733,1553939020907850⟩⟩
def E2i:PN:=⟨⟨1228065289500112,1995656439401154,747490468072570,1771782479153808,1441803220130225⟩,⟨1133256506751681,1971401122869232,364740748818945,274858525947676,944245750712036⟩,⟨1,0,0,0,0⟩,⟨969799468763409,758675615912443,164497183604933,410658007103705,1365606147138959⟩⟩
def E9l:PN:=⟨⟨2050219849394447,2136640035013897,682111103158185,1698971002258475,442296111034018⟩,⟨558048773939678,897533695604502,1035891336244684,1945051063646027,220875155027932⟩,⟨1,0,0,0,0⟩,⟨136528770899845,637133720221738,1127633800314291,1677182430025837,1482130520813037⟩⟩
def E0v:PN:=⟨⟨513905658590587,680817969573829,1150970882872061,354648524841429,1182660725187364⟩,⟨1687245214141198,1499423053851412,1198492387236350,1278757245406394,1918084130941870⟩,⟨1,0,0,0,0⟩,⟨13131300766877,2018180793845027,437449436518264,116732650814892,1368575053372683⟩⟩
def E6z:PN:=⟨⟨124475054908452,1906983202879951,611701698187204,1873527664260246,1365903236220276⟩,⟨1978406422605413,1915091176750658,961916202316503,396934785157585,866421071701821⟩,⟨1,0,0,0,0⟩,⟨417773349695347,1654602006188621,985389090556103,1189633363629426,288170139646185⟩⟩
def E1w:PN:=⟨⟨78814272546852,343446598238096,1469662686845463,446722075312752,1339733442806879⟩,⟨770831939905131,1066752177064823,855905013023480,1194941381303059,1674322643330780⟩,⟨1,0,0,0,0⟩,⟨2025065385374602,84441031851324,1769310306558354,26295680040963,99051874860870⟩⟩
def E5c:PN:=⟨⟨2248752024183766,708723593180029,1256489519620460,1977762733290583,2173540277402287⟩,⟨356808580336773,889637948668713,2118215992267087,2196570670553569,497367236949540⟩,⟨1,0,0,0,0⟩,⟨637585733359542,1435081831225848,1456442193699608,1717437606507251,1447466321451996⟩⟩
def E8a:PN:=⟨⟨2102370904129425,9421038388327,922877803622304,1730456536722459,762334075187381⟩,⟨427580487847279,1800861300174619,848721725908694,1905002686634420,2174839152969707⟩,⟨1,0,0,0,0⟩,⟨268052600032300,1676250763249512,1344774212489870,1877856504985088,1551852259475401⟩⟩
def E8e:PN:=⟨⟨73949236156954,243328099540869,285103069684975,535059367582198,507523117579041⟩,⟨81762443123683,437772300968419,104708665526234,1600664443758511,2153009907310332⟩,⟨1,0,0,0,0⟩,⟨525185820960592,2109162826897277,1727597431782170,94579111876036,1943291465670801⟩⟩
def F0s:PN:=⟨⟨1007523394043953,877179782120715,750791257494571,1684193508924439,1481971162173362⟩,⟨892412035198752,724888969399762,189791939055799,650037373814668,58891993572333⟩,⟨1,0,0,0,0⟩,⟨2012424166711840,1051009010171064,985378134251402,340978745693086,76576796701879⟩⟩
def E3f:PN:=⟨⟨1221600705668234,422433434344282,1165451223563677,146148415932141,2233882774218833⟩,⟨27130515852506,1042767501773405,1627152082831711,2158630032433998,279351529642523⟩,⟨1,0,0,0,0⟩,⟨399543236321792,304278115101828,1696822803913734,1638181959782862,1187398200262185⟩⟩
def E5t:PN:=⟨⟨1707106071538538,1034947591101305,1883622717070250,2247368448221425,79795392053140⟩,⟨1911252298510640,413658976450780,1847058117559766,170234544819720,1035923066070357⟩,⟨1,0,0,0,0⟩,⟨1620168465800920,853903694194838,1629795986498023,449057437180843,773788728556441⟩⟩
def E4j:PN:=⟨⟨705317732516645,1259080967901750,110596001674658,152606910492821,257476921021274⟩,⟨2000400530866971,1099125665712498,1961944974262476,155981950177417,1046917659734111⟩,⟨1,0,0,0,0⟩,⟨730820343861142,1746061691430809,1882659248310344,918803715970310,1070778979244388⟩⟩
def F0x:PN:=⟨⟨798540852548237,1186388878089071,554557418141563,2038592377592718,488711206961541⟩,⟨833812069173299,646939731425630,1538221673810424,2137163637965756,1721356815521377⟩,⟨1,0,0,0,0⟩,⟨76009751102151,1911895294413367,1262509771121608,1445197895593765,460973337299855⟩⟩
def E4l:PN:=⟨⟨54500732029931,1229228649591394,1395999898189729,1718070411837384,1664301080442019⟩,⟨1903443165125547,559438718436641,993492825524625,534768921454925,1413903496556256⟩,⟨1,0,0,0,0⟩,⟨120803451939400,1228462511466555,1825422928562560,2073882328972608,1338393801812170⟩⟩
def E4c:PN:=⟨⟨2009719025433307,1338026402858380,368645885213984,1305913578656784,900000752165226⟩,⟨901384702181433,618421315369192,1461922630708682,1786955284772872,769606372041141⟩,⟨1,0,0,0,0⟩,⟨2237692444171697,2144656409190513,1435531634016049,1875943125805625,1458226165828182⟩⟩
def E2m:PN:=⟨⟨1290284552533580,149109026735730,152217355613238,1936628254954832,289514889573986⟩,⟨545116827004962,24791008572662,666030275103494,2077271970883202,731991509874304⟩,⟨1,0,0,0,0⟩,⟨682751199693311,2090280524683502,1447319815966402,753208601256438,2019644203483639⟩⟩
def E5g:PN:=⟨⟨66253276699711,1252511340070009,2001984381343139,1811095600397663,2073215811985677⟩,⟨1623460295322413,1593143032869612,1227910477134078,174031738331835,1854653122047196⟩,⟨1,0,0,0,0⟩,⟨378835871973892,862775089586864,2213372231758376,1367038889672674,1837642890635372⟩⟩
def E1p:PN:=⟨⟨855109427260935,1192666648398113,1070509169023896,49743400943463,2059455722217761⟩,⟨1868326402194645,1731588568080711,734486077860206,1792565842527341,1694206596449169⟩,⟨1,0,0,0,0⟩,⟨1030568103689263,1717414762294505,1289812983312952,428593515366431,1052052483814347⟩⟩
def E9g:PN:=⟨⟨1078783740036999,198946038155516,1242334275692922,1915693194367353,716690677826317⟩,⟨1158255922756604,2050076295205690,816279270940781,485560714163174,1498485971338264⟩,⟨1,0,0,0,0⟩,⟨949271686208484,1835219553732856,1146775173265892,2161931743141499,1913301798815708⟩⟩
def E2g:PN:=⟨⟨302555565364767,1820588068919652,772267205884354,1865066538047563,1551475371085944⟩,⟨1996585736328222,70826822300604,211627457424574,562895043924503,1826585557779011⟩,⟨1,0,0,0,0⟩,⟨338531462563851,1655232836796258,315301918780359,145172540828775,2195524900867729⟩⟩
theorem F2x:Q0 0 kL0=true:=by decide +kernel
theorem F4d:Q0 1 kL1=true:=by decide +kernel
theorem F2n:Q0 2 kL2=true:=by decide +kernel
theorem F2p:Q0 3 kL3=true:=by decide +kernel
theorem F2u:Q0 4 kL4=true:=by decide +kernel
theorem F2y:Q0 5 kL5=true:=by decide +kernel
theorem F2v:Q0 6 kL6=true:=by decide +kernel
theorem F3l:Q0 7 kL7=true:=by decide +kernel
theorem F3z:Q0 8 kL8=true:=by decide +kernel
theorem F2s:Q0 9 kL9=true:=by decide +kernel
theorem E8s:Q0 10 E4e=true:=by decide +kernel
theorem F0c:Q0 11 E8n=true:=by decide +kernel
theorem E4y:Q0 12 E2i=true:=by decide +kernel
theorem E8p:Q0 13 E9l=true:=by decide +kernel
theorem E2p:Q0 14 E0v=true:=by decide +kernel
theorem E7z:Q0 15 E6z=true:=by decide +kernel
theorem E5x:Q0 16 E1w=true:=by decide +kernel
theorem E3v:Q0 17 E5c=true:=by decide +kernel
theorem E4s:Q0 18 E8a=true:=by decide +kernel
theorem E8c:Q0 19 E8e=true:=by decide +kernel
theorem E4g:Q0 20 F0s=true:=by decide +kernel
theorem E7p:Q0 21 E3f=true:=by decide +kernel
theorem E3r:Q0 22 E5t=true:=by decide +kernel
theorem E6f:Q0 23 E4j=true:=by decide +kernel
theorem E5i:Q0 24 F0x=true:=by decide +kernel
theorem D9y:Q0 25 E4l=true:=by decide +kernel
theorem E5u:Q0 26 E4c=true:=by decide +kernel
theorem E3j:Q0 27 E2m=true:=by decide +kernel
theorem E7s:Q0 28 E5g=true:=by decide +kernel
theorem E1y:Q0 29 E1p=true:=by decide +kernel
theorem E1i:Q0 30 E9g=true:=by decide +kernel
theorem E8z:Q0 31 E2g=true:=by decide +kernel
def C5h:List PN:=[kL0,kL1,kL2,kL3,kL4,kL5,kL6,kL7,kL8,kL9,E4e,E8n,E2i,E9l,E0v,E6z,E1w,E5c,E8a,E8e,F0s,E3f,E5t,E4j,F0x,E4l,E4c,E2m,E5g,E1p,E9g,E2g]
theorem E6c:∀i,i<32→Fo i=uP (B8w C5h i):=by
 intro i hi;match i,hi with
 | 0,_=>exact M6 F2x
 | 1,_=>exact M6 F4d
 | 2,_=>exact M6 F2n
 | 3,_=>exact M6 F2p
 | 4,_=>exact M6 F2u
 | 5,_=>exact M6 F2y
 | 6,_=>exact M6 F2v
 | 7,_=>exact M6 F3l
 | 8,_=>exact M6 F3z
 | 9,_=>exact M6 F2s
 | 10,_=>exact M6 E8s
 | 11,_=>exact M6 F0c
 | 12,_=>exact M6 E4y
 | 13,_=>exact M6 E8p
 | 14,_=>exact M6 E2p
 | 15,_=>exact M6 E7z
 | 16,_=>exact M6 E5x
 | 17,_=>exact M6 E3v
 | 18,_=>exact M6 E4s
 | 19,_=>exact M6 E8c
 | 20,_=>exact M6 E4g
 | 21,_=>exact M6 E7p
 | 22,_=>exact M6 E3r
 | 23,_=>exact M6 E6f
 | 24,_=>exact M6 E5i
 | 25,_=>exact M6 D9y
 | 26,_=>exact M6 E5u
 | 27,_=>exact M6 E3j
 | 28,_=>exact M6 E7s
 | 29,_=>exact M6 E1y
 | 30,_=>exact M6 E1i
 | 31,_=>exact M6 E8z
 | n+32,h=>exact absurd h (by omega)
theorem Zg {n:List UInt8} {q:PN} {b:List UInt8} (h:Pu A0t C5h n 8=q) (e:(Xk q==b)=true):Fv (Sz X5 n)=b:=by
 have h1:Sz X5 n=A2u n:=B1k n (beq_self_eq_true _);rw[h1];show Fv (Bc n 8)=b;rw[B2y B7l E6c,h,A8x];exact eq_of_beq e
end
section
set_option maxRecDepth 100000
set_option maxHeartbeats 0
end
end Go.Proofs.YtdfpoofbgjilgaaGreat
