/- A part of the proof of DirPlays. -/
import Derived.Test.YtlegpkdighoflaaGreatRaz
set_option linter.unusedVariables false
set_option linter.unusedSimpArgs false
set_option maxRecDepth 100000
set_option maxHeartbeats 40000000
namespace Go.Proofs.YtlegpkdighoflaaGreat
open Go Go.RowKit Sh
structure N5 where
 a:Nat
 b:Nat
 c:Nat
 d:Nat
 e:Nat
def u5 (x:N5):List UInt64:=[UInt64.ofNat x.a,UInt64.ofNat x.b,UInt64.ofNat x.c,UInt64.ofNat x.d,UInt64.ofNat x.e]
@[simp] theorem E5f (x : N5) : (u5 x).length = 5 := rfl
def D6d (x0 x1 x2 x3 x4:Nat):N5:=
 ⟨Nat.add (Nat.mod x0 2251799813685248) (Nat.mul 19 (Nat.div (Nat.mod x4 18446744073709551616) 2251799813685248)),
  Nat.add (Nat.mod x1 2251799813685248) (Nat.div (Nat.mod x0 18446744073709551616) 2251799813685248),
  Nat.add (Nat.mod x2 2251799813685248) (Nat.div (Nat.mod x1 18446744073709551616) 2251799813685248),
  Nat.add (Nat.mod x3 2251799813685248) (Nat.div (Nat.mod x2 18446744073709551616) 2251799813685248),
  Nat.add (Nat.mod x4 2251799813685248) (Nat.div (Nat.mod x3 18446744073709551616) 2251799813685248)⟩
def E3w (t0 t1 t2 t3 t4:Nat):N5:=
 D6d (Nat.add (Nat.mod t0 2251799813685248) (Nat.mul 19 (Nat.div t4 2251799813685248)))
  (Nat.add (Nat.mod t1 2251799813685248) (Nat.div t0 2251799813685248))
  (Nat.add (Nat.mod t2 2251799813685248) (Nat.div t1 2251799813685248))
  (Nat.add (Nat.mod t3 2251799813685248) (Nat.div t2 2251799813685248))
  (Nat.add (Nat.mod t4 2251799813685248) (Nat.div t3 2251799813685248))
def D2u (a b c d e:Nat):Nat:=Nat.add (Nat.add (Nat.add (Nat.add a b) c) d) e
def U5 (x:Nat):Nat:=Nat.mod x 18446744073709551616
def E8o (a0 a1 a2 a3 a4 b0 b1 b2 b3 b4 n1 n2 n3 n4:Nat):N5:=
 E3w (D2u (Nat.mul a0 b0) (Nat.mul n1 b4) (Nat.mul n2 b3) (Nat.mul n3 b2) (Nat.mul n4 b1))
  (D2u (Nat.mul a0 b1) (Nat.mul a1 b0) (Nat.mul n2 b4) (Nat.mul n3 b3) (Nat.mul n4 b2))
  (D2u (Nat.mul a0 b2) (Nat.mul a1 b1) (Nat.mul a2 b0) (Nat.mul n3 b4) (Nat.mul n4 b3))
  (D2u (Nat.mul a0 b3) (Nat.mul a1 b2) (Nat.mul a2 b1) (Nat.mul a3 b0) (Nat.mul n4 b4))
  (D2u (Nat.mul a0 b4) (Nat.mul a1 b3) (Nat.mul a2 b2) (Nat.mul a3 b1) (Nat.mul a4 b0))
def Dw (x y:N5):N5:=
 E8o (U5 x.a) (U5 x.b) (U5 x.c) (U5 x.d) (U5 x.e) (U5 y.a) (U5 y.b) (U5 y.c) (U5 y.d) (U5 y.e)
  (U5 (Nat.mul 19 x.b)) (U5 (Nat.mul 19 x.c)) (U5 (Nat.mul 19 x.d)) (U5 (Nat.mul 19 x.e))
def sqG (a0 a1 a2 a3 a4 d0 d1 d2 d3 n3 n4:Nat):N5:=
 E3w (Nat.add (Nat.add (Nat.mul a0 a0) (Nat.mul d1 n4)) (Nat.mul d2 n3))
  (Nat.add (Nat.add (Nat.mul d0 a1) (Nat.mul d2 n4)) (Nat.mul a3 n3))
  (Nat.add (Nat.add (Nat.mul d0 a2) (Nat.mul a1 a1)) (Nat.mul d3 n4))
  (Nat.add (Nat.add (Nat.mul d0 a3) (Nat.mul d1 a2)) (Nat.mul a4 n4))
  (Nat.add (Nat.add (Nat.mul d0 a4) (Nat.mul d1 a3)) (Nat.mul a2 a2))
def sqN (x:N5):N5:=
 sqG (U5 x.a) (U5 x.b) (U5 x.c) (U5 x.d) (U5 x.e) (U5 (Nat.mul 2 x.a)) (U5 (Nat.mul 2 x.b)) (U5 (Nat.mul 2 x.c)) (U5 (Nat.mul 2 x.d)) (U5 (Nat.mul 19 x.d)) (U5 (Nat.mul 19 x.e))
def Qf (x y:N5):N5:=D6d (Nat.add x.a y.a) (Nat.add x.b y.b) (Nat.add x.c y.c) (Nat.add x.d y.d) (Nat.add x.e y.e)
def Yp (x y:N5):N5:=
 D6d (Nat.add x.a (Nat.sub 18455751272964292532 (U5 y.a))) (Nat.add x.b (Nat.sub 18455751272964292604 (U5 y.b))) (Nat.add x.c (Nat.sub 18455751272964292604 (U5 y.c))) (Nat.add x.d (Nat.sub 18455751272964292604 (U5 y.d))) (Nat.add x.e (Nat.sub 18455751272964292604 (U5 y.e)))
def A1h:Nat→N5→N5
 | 0,a=>a
 | q+1,a=>sqN (A1h q a)
def d2 (n:Nat):List UInt64:=[UInt64.ofNat (n / 18446744073709551616),UInt64.ofNat n]
theorem Q4 (n:Nat):(UInt64.ofNat n).toNat=n % 18446744073709551616:=UInt64.toNat_ofNat' ..
theorem Wp (a b:Nat):UInt64.ofNat a+UInt64.ofNat b=UInt64.ofNat (a+b):=by
 apply UInt64.toNat_inj.1;rw[UInt64.toNat_add,Q4,Q4,Q4];omega
theorem B1i (a b:Nat):UInt64.ofNat a*UInt64.ofNat b=UInt64.ofNat (a*b):=by
 apply UInt64.toNat_inj.1;rw[UInt64.toNat_mul,Q4,Q4,Q4];exact (Nat.mul_mod _ _ _).symm
theorem Y0 (a:Nat):UInt64.ofNat (U5 a)=UInt64.ofNat a:=by
 apply UInt64.toNat_inj.1;rw[Q4,Q4];show a % 18446744073709551616 % 18446744073709551616=_;omega
theorem C9a (a:Nat):UInt64.ofNat a &&& (2251799813685247:UInt64)=UInt64.ofNat (a % 2251799813685248):=by
 apply UInt64.toNat_inj.1;rw[UInt64.toNat_and,Q4,Q4];rw[show (2251799813685247:UInt64).toNat=2 ^ 51-1 from rfl,Nat.and_two_pow_sub_one_eq_mod];omega
theorem E1n (a:Nat):UInt64.ofNat a >>> (51:UInt64)=UInt64.ofNat (a % 18446744073709551616 / 2251799813685248):=by
 apply UInt64.toNat_inj.1;rw[UInt64.toNat_shiftRight,Q4,Q4,show (51:UInt64).toNat % 64=51 from rfl,Nat.shiftRight_eq_div_pow];omega
theorem C2p (x y:Nat) (hx:x<18446744073709551616) (hy:y<18446744073709551616):Qh (UInt64.ofNat x) (UInt64.ofNat y)=d2 (x*y):=by
 unfold Qh B2t d2;rw[B1i,Q4,Q4,Nat.mod_eq_of_lt hx,Nat.mod_eq_of_lt hy]
theorem B5c (n x y:Nat) (hx:x<18446744073709551616) (hy:y<18446744073709551616):Bs (d2 n) (UInt64.ofNat x) (UInt64.ofNat y)=d2 (n+x*y):=by
 have e0:F8 (d2 n) 0=UInt64.ofNat (n / 18446744073709551616):=rfl;have e1:F8 (d2 n) 1=UInt64.ofNat n:=rfl;unfold Bs;rw[e0,e1];unfold d2 Zk A1n B2t;have z:(0:UInt64)=UInt64.ofNat 0:=rfl;rw[B1i,Q4,Q4,Q4,Q4,Nat.mod_eq_of_lt hx,Nat.mod_eq_of_lt hy,z,Q4,Wp,Wp,Wp,Wp];generalize x*y=p;have:UInt64.ofNat (p / 18446744073709551616+n / 18446744073709551616+(p % 18446744073709551616+n % 18446744073709551616+0 % 18446744073709551616) / 18446744073709551616)=UInt64.ofNat ((n+p) / 18446744073709551616):=by congr 1;omega
 rw[this];congr 2;congr 1;omega
theorem D7z (n:Nat):over (d2 n)=UInt64.ofNat (n / 2251799813685248):=by
 have e0:F8 (d2 n) 0=UInt64.ofNat (n / 18446744073709551616):=rfl;have e1:F8 (d2 n) 1=UInt64.ofNat n:=rfl;unfold over;rw[e0,e1];apply UInt64.toNat_inj.1;rw[UInt64.toNat_or,UInt64.toNat_shiftLeft,UInt64.toNat_shiftRight,Q4,Q4,Q4,show (51:UInt64).toNat % 64=51 from rfl,show (13:UInt64).toNat % 64=13 from rfl,Nat.shiftRight_eq_div_pow,Nat.shiftLeft_eq];have e:n / 18446744073709551616 % 18446744073709551616*2 ^ 13 % 2 ^ 64=(n / 18446744073709551616 % 2251799813685248) <<< 13:=by rw[Nat.shiftLeft_eq];omega
 rw[e,←Nat.shiftLeft_add_eq_or_of_lt (by omega),Nat.shiftLeft_eq];omega
theorem E2y (n:Nat):F8 (d2 n) 1 &&& (2251799813685247:UInt64)=UInt64.ofNat (n % 2251799813685248):=C9a n
theorem Ew (a:Nat):19*UInt64.ofNat a=UInt64.ofNat (19*a):=B1i 19 a
theorem B1j (a:Nat):2*UInt64.ofNat a=UInt64.ofNat (2*a):=B1i 2 a
theorem C0d (x0 x1 x2 x3 x4:Nat):Im [UInt64.ofNat x0,UInt64.ofNat x1,UInt64.ofNat x2,UInt64.ofNat x3,UInt64.ofNat x4]=u5 (D6d x0 x1 x2 x3 x4):=by
 show [(UInt64.ofNat x0 &&& (2251799813685247:UInt64))+19*(UInt64.ofNat x4 >>> (51:UInt64)),(UInt64.ofNat x1 &&& (2251799813685247:UInt64))+UInt64.ofNat x0 >>> (51:UInt64),(UInt64.ofNat x2 &&& (2251799813685247:UInt64))+UInt64.ofNat x1 >>> (51:UInt64),(UInt64.ofNat x3 &&& (2251799813685247:UInt64))+UInt64.ofNat x2 >>> (51:UInt64),(UInt64.ofNat x4 &&& (2251799813685247:UInt64))+UInt64.ofNat x3 >>> (51:UInt64)]=_;simp only[C9a,E1n,Ew,Wp];rfl
theorem D0x (t0 t1 t2 t3 t4:Nat):Nn (d2 t0) (d2 t1) (d2 t2) (d2 t3) (d2 t4)=u5 (E3w t0 t1 t2 t3 t4):=by
 unfold Nn D7e;simp only[E2y,D7z,Ew,Wp];rw[C0d];rfl
theorem Sb (a:Nat):U5 a<18446744073709551616:=Nat.mod_lt _ (by decide)
theorem Fb (x y:N5):Q7 (u5 x) (u5 y)=u5 (Dw x y):=by
 obtain⟨a0,a1,a2,a3,a4⟩:=x;obtain⟨b0,b1,b2,b3,b4⟩:=y;have e0:F8 (u5 ⟨a0,a1,a2,a3,a4⟩) 0=UInt64.ofNat (U5 a0):=(Y0 _).symm;have e1:F8 (u5 ⟨a0,a1,a2,a3,a4⟩) 1=UInt64.ofNat (U5 a1):=(Y0 _).symm;have e2:F8 (u5 ⟨a0,a1,a2,a3,a4⟩) 2=UInt64.ofNat (U5 a2):=(Y0 _).symm;have e3:F8 (u5 ⟨a0,a1,a2,a3,a4⟩) 3=UInt64.ofNat (U5 a3):=(Y0 _).symm;have e4:F8 (u5 ⟨a0,a1,a2,a3,a4⟩) 4=UInt64.ofNat (U5 a4):=(Y0 _).symm;have f0:F8 (u5 ⟨b0,b1,b2,b3,b4⟩) 0=UInt64.ofNat (U5 b0):=(Y0 _).symm;have f1:F8 (u5 ⟨b0,b1,b2,b3,b4⟩) 1=UInt64.ofNat (U5 b1):=(Y0 _).symm;have f2:F8 (u5 ⟨b0,b1,b2,b3,b4⟩) 2=UInt64.ofNat (U5 b2):=(Y0 _).symm;have f3:F8 (u5 ⟨b0,b1,b2,b3,b4⟩) 3=UInt64.ofNat (U5 b3):=(Y0 _).symm;have f4:F8 (u5 ⟨b0,b1,b2,b3,b4⟩) 4=UInt64.ofNat (U5 b4):=(Y0 _).symm;have n1:19*UInt64.ofNat (U5 a1)=UInt64.ofNat (U5 (Nat.mul 19 a1)):=by rw[Y0,Y0];exact Ew _
 have n2:19*UInt64.ofNat (U5 a2)=UInt64.ofNat (U5 (Nat.mul 19 a2)):=by rw[Y0,Y0];exact Ew _
 have n3:19*UInt64.ofNat (U5 a3)=UInt64.ofNat (U5 (Nat.mul 19 a3)):=by rw[Y0,Y0];exact Ew _
 have n4:19*UInt64.ofNat (U5 a4)=UInt64.ofNat (U5 (Nat.mul 19 a4)):=by rw[Y0,Y0];exact Ew _
 unfold Q7 A8z A9c B0y A9f A8x;rw[e0,e1,e2,e3,e4,f0,f1,f2,f3,f4,n1,n2,n3,n4];unfold Dw E8o;dsimp only;simp only[C2p _ _ (Sb _) (Sb _),B5c _ _ _ (Sb _) (Sb _)];exact D0x _ _ _ _ _
theorem B4n (x:N5):fsq (u5 x)=u5 (sqN x):=by
 obtain⟨a0,a1,a2,a3,a4⟩:=x;have e0:F8 (u5 ⟨a0,a1,a2,a3,a4⟩) 0=UInt64.ofNat (U5 a0):=(Y0 _).symm;have e1:F8 (u5 ⟨a0,a1,a2,a3,a4⟩) 1=UInt64.ofNat (U5 a1):=(Y0 _).symm;have e2:F8 (u5 ⟨a0,a1,a2,a3,a4⟩) 2=UInt64.ofNat (U5 a2):=(Y0 _).symm;have e3:F8 (u5 ⟨a0,a1,a2,a3,a4⟩) 3=UInt64.ofNat (U5 a3):=(Y0 _).symm;have e4:F8 (u5 ⟨a0,a1,a2,a3,a4⟩) 4=UInt64.ofNat (U5 a4):=(Y0 _).symm;have n3:19*UInt64.ofNat (U5 a3)=UInt64.ofNat (U5 (Nat.mul 19 a3)):=by rw[Y0,Y0];exact Ew _
 have n4:19*UInt64.ofNat (U5 a4)=UInt64.ofNat (U5 (Nat.mul 19 a4)):=by rw[Y0,Y0];exact Ew _
 have m0:2*UInt64.ofNat (U5 a0)=UInt64.ofNat (U5 (Nat.mul 2 a0)):=by rw[Y0,Y0];exact B1j _
 have m1:2*UInt64.ofNat (U5 a1)=UInt64.ofNat (U5 (Nat.mul 2 a1)):=by rw[Y0,Y0];exact B1j _
 have m2:2*UInt64.ofNat (U5 a2)=UInt64.ofNat (U5 (Nat.mul 2 a2)):=by rw[Y0,Y0];exact B1j _
 have m3:2*UInt64.ofNat (U5 a3)=UInt64.ofNat (U5 (Nat.mul 2 a3)):=by rw[Y0,Y0];exact B1j _
 unfold fsq C0p C1z C1j C1i C2l;rw[e0,e1,e2,e3,e4,m0,m1,m2,m3,n3,n4];unfold sqN sqG;dsimp only;simp only[C2p _ _ (Sb _) (Sb _),B5c _ _ _ (Sb _) (Sb _)];exact D0x _ _ _ _ _
theorem B1h (x y:N5):Iw (u5 x) (u5 y)=u5 (Qf x y):=by
 obtain⟨a0,a1,a2,a3,a4⟩:=x;obtain⟨b0,b1,b2,b3,b4⟩:=y;have e:D5m (u5 ⟨a0,a1,a2,a3,a4⟩) (u5 ⟨b0,b1,b2,b3,b4⟩)=[UInt64.ofNat a0+UInt64.ofNat b0,UInt64.ofNat a1+UInt64.ofNat b1,UInt64.ofNat a2+UInt64.ofNat b2,UInt64.ofNat a3+UInt64.ofNat b3,UInt64.ofNat a4+UInt64.ofNat b4]:=rfl;unfold Iw;rw[e];simp only[Wp];exact C0d _ _ _ _ _
theorem B0z (a b:Nat):UInt64.ofNat a+(9007199254740988-UInt64.ofNat b)=UInt64.ofNat (a+(18455751272964292604-U5 b)):=by
 apply UInt64.toNat_inj.1;rw[UInt64.toNat_add,UInt64.toNat_sub,Q4,Q4,Q4];have:(9007199254740988:UInt64).toNat=9007199254740988:=rfl;rw[this];show _=(a+(18455751272964292604-b % 18446744073709551616)) % 18446744073709551616;omega
theorem D4w (a b:Nat):UInt64.ofNat a+(9007199254740988-UInt64.ofNat b)-72=UInt64.ofNat (a+(18455751272964292532-U5 b)):=by
 apply UInt64.toNat_inj.1;rw[UInt64.toNat_sub,UInt64.toNat_add,UInt64.toNat_sub,Q4,Q4,Q4];have:(9007199254740988:UInt64).toNat=9007199254740988:=rfl;rw[this];have:(72:UInt64).toNat=72:=rfl;rw[this];show _=(a+(18455751272964292532-b % 18446744073709551616)) % 18446744073709551616;omega
theorem Vf (x y:N5):Jf (u5 x) (u5 y)=u5 (Yp x y):=by
 obtain⟨a0,a1,a2,a3,a4⟩:=x;obtain⟨b0,b1,b2,b3,b4⟩:=y;have e:D6c (u5 ⟨a0,a1,a2,a3,a4⟩) (u5 ⟨b0,b1,b2,b3,b4⟩)=[UInt64.ofNat a0+(9007199254740988-UInt64.ofNat b0)-72,UInt64.ofNat a1+(9007199254740988-UInt64.ofNat b1),UInt64.ofNat a2+(9007199254740988-UInt64.ofNat b2),UInt64.ofNat a3+(9007199254740988-UInt64.ofNat b3),UInt64.ofNat a4+(9007199254740988-UInt64.ofNat b4)]:=rfl;unfold Jf;rw[e];rw[D4w,B0z,B0z,B0z,B0z];exact C0d _ _ _ _ _
theorem Ng (n:Nat) (x:N5):Hw n (u5 x)=u5 (A1h n x):=by
 induction n with
 | zero=>rfl
 | succ n ih=>show fsq (Hw n (u5 x))=_;rw[ih,B4n];rfl
def C2q (a:N5):N5:=Dw (A1h 2 (sqN a)) a
def A1z (a:N5):N5:=Dw (C2q a) (sqN a)
def n5 (a:N5):N5:=Dw (sqN (A1z a)) (C2q a)
def n10 (a:N5):N5:=Dw (A1h 5 (n5 a)) (n5 a)
def n20 (a:N5):N5:=Dw (A1h 10 (n10 a)) (n10 a)
def n50 (a:N5):N5:=Dw (A1h 10 (Dw (A1h 20 (n20 a)) (n20 a))) (n10 a)
def D7d (a:N5):N5:=Dw (A1h 50 (n50 a)) (n50 a)
def C1m (a:N5):N5:=Dw (A1h 50 (Dw (A1h 100 (D7d a)) (D7d a))) (n50 a)
def C8j (a:N5):N5:=Dw (A1h 5 (C1m a)) (A1z a)
theorem C2a (a:N5):A4g (u5 a)=u5 (C2q a):=by unfold A4g C2q;simp only[B4n,Ng,Fb]
theorem A6r (a:N5):Kj (u5 a)=u5 (A1z a):=by unfold Kj A1z;simp only[C2a,B4n,Ng,Fb]
theorem F7t (a:N5):f5 (u5 a)=u5 (n5 a):=by unfold f5 n5;simp only[C2a,A6r,B4n,Ng,Fb]
theorem D9g (a:N5):f10 (u5 a)=u5 (n10 a):=by unfold f10 n10;simp only[F7t,Ng,Fb]
theorem E9p (a:N5):f20 (u5 a)=u5 (n20 a):=by unfold f20 n20;simp only[D9g,Ng,Fb]
theorem D9i (a:N5):f50 (u5 a)=u5 (n50 a):=by unfold f50 n50;simp only[D9g,E9p,Ng,Fb]
theorem E2o (a:N5):A6h (u5 a)=u5 (D7d a):=by unfold A6h D7d;simp only[D9i,Ng,Fb]
theorem C2c (a:N5):Vd (u5 a)=u5 (C1m a):=by unfold Vd C1m;simp only[D9i,E2o,Ng,Fb]
theorem D3y (a:N5):Yt (u5 a)=u5 (C8j a):=by unfold Yt C8j;simp only[C2c,A6r,Ng,Fb]
structure PN where
 x:N5
 y:N5
 z:N5
 t:N5
def uP (p:PN):Pn:=⟨u5 p.x,u5 p.y,u5 p.z,u5 p.t⟩
def A3a (p q:PN) (k:N5):PN:=
 let a:=Dw (Yp p.y p.x) (Yp q.y q.x)
 let b:=Dw (Qf p.y p.x) (Qf q.y q.x)
 let c:=Dw (Dw p.t k) q.t
 let d:=Dw p.z q.z
 let d2:=Qf d d
 let e:=Yp b a
 let f:=Yp d2 c
 let g:=Qf d2 c
 let h:=Qf b a
 ⟨Dw e f,Dw g h,Dw f g,Dw e h⟩
def dbN (p:PN):PN:=
 let a:=Dw p.x p.x
 let b:=Dw p.y p.y
 let c:=Dw p.z p.z
 let h:=Qf a b
 let s:=Qf p.x p.y
 let e:=Yp h (Dw s s)
 let g:=Yp a b
 let f:=Qf (Qf c c) g
 ⟨Dw e f,Dw g h,Dw f g,Dw e h⟩
theorem Yl (p q:PN) (k:N5):Ac (uP p) (uP q) (u5 k)=uP (A3a p q k):=by
 unfold Ac uP A3a;simp only[Fb,B1h,Vf]
theorem D1a (p:PN):Js (uP p)=uP (dbN p):=by
 unfold Js uP dbN;simp only[Fb,B1h,Vf]
theorem D1m:(([]:List UInt64)==[])=true:=rfl
def z5N (x:N5):Bool:=(U5 x.a).beq 0&&((U5 x.b).beq 0&&((U5 x.c).beq 0&&((U5 x.d).beq 0&&(U5 x.e).beq 0)))
def zPN (p:PN):Bool:=z5N p.x&&(z5N p.y&&(z5N p.z&&z5N p.t))
theorem D8v (a:Nat):(UInt64.ofNat a==0)=(U5 a).beq 0:=by
 rw[Bool.eq_iff_iff,beq_iff_eq,Nat.beq_eq,←UInt64.toNat_inj,Q4];rfl
theorem D4v (x:N5):(u5 x==M1 5)=z5N x:=by
 show ([UInt64.ofNat x.a,UInt64.ofNat x.b,UInt64.ofNat x.c,UInt64.ofNat x.d,UInt64.ofNat x.e]==[0,0,0,0,0])=_;simp only[List.cons_beq_cons,D1m,D8v,Bool.and_true];rfl
theorem F7c (p:PN):((uP p).row==M1 20)=zPN p:=by
 have e:∀(a b c d:List UInt64),a.length=5→b.length=5→c.length=5→d.length=5→(ptl a b c d==M1 20)=((a==M1 5)&&((b==M1 5)&&((c==M1 5)&&(d==M1 5)))):=by
  intro a b c d ha hb hc hd;match a,b,c,d,ha,hb,hc,hd with
  | [a0,a1,a2,a3,a4],[b0,b1,b2,b3,b4],[c0,c1,c2,c3,c4],[d0,d1,d2,d3,d4],_,_,_,_=>
   show ([a0,a1,a2,a3,a4,b0,b1,b2,b3,b4,c0,c1,c2,c3,c4,d0,d1,d2,d3,d4]==[0,0,0,0,0,0,0,0,0,0,0,0,0,0,0,0,0,0,0,0])=(([a0,a1,a2,a3,a4]==[0,0,0,0,0])&&(([b0,b1,b2,b3,b4]==[0,0,0,0,0])&&(([c0,c1,c2,c3,c4]==[0,0,0,0,0])&&([d0,d1,d2,d3,d4]==[0,0,0,0,0]))));simp only[List.cons_beq_cons,D1m,Bool.true_and,Bool.and_true,Bool.and_assoc]
 unfold Pn.row uP zPN;rw[e _ _ _ _ rfl rfl rfl rfl,D4v,D4v,D4v,D4v]
def A5y:N5:=⟨1,0,0,0,0⟩
def Gu:N5:=⟨0,0,0,0,0⟩
theorem C1h:Eb 1=u5 A5y:=by decide +kernel
theorem C0g:Eb 0=u5 Gu:=by decide +kernel
def A3c (x y:N5):PN:=⟨x,y,A5y,Dw x y⟩
theorem Tk (x y:N5):Cx (u5 x) (u5 y)=uP (A3c x y):=by unfold Cx uP A3c;simp only[Fb,C1h]
def Ia (p:PN):PN:=if zPN p then A3c Gu A5y else p
theorem Ls (p:PN):U2 (uP p)=uP (Ia p):=by
 unfold U2 Ia;rw[F7c];split
 ·rw[C1h,C0g,Tk]
 ·rfl
def E3e (p:PN):PN:=⟨Yp Gu (Ia p).x,(Ia p).y,(Ia p).z,Yp Gu (Ia p).t⟩
theorem E4n (p:PN):Kn (uP p)=uP (E3e p):=by
 unfold Kn E3e;rw[Ls,C0g];unfold uP;simp only[Vf]
def D3n (k:N5) (p q:PN):PN:=A3a (Ia p) (Ia q) k
theorem E1k {k:N5} (hk:F2=u5 k) (p q:PN):B3l (uP p) (uP q)=uP (D3n k p q):=by
 unfold B3l D3n;rw[Ls,Ls,hk,Yl]
def D9x (x y:N5):List UInt8:=if A2v (u5 x) then (Q3 (u5 y)).set 31 (g8 (Q3 (u5 y)) 31 ||| 128) else Q3 (u5 y)
def A3t (p:PN):List UInt8:=D9x (Dw (Ia p).x (C8j (Ia p).z)) (Dw (Ia p).y (C8j (Ia p).z))
theorem A9j (p:PN):E3 (uP p)=A3t p:=by
 unfold E3 A3t B2s D9x;rw[Ls];unfold uP;simp only[D3y,Fb]
def D0m:Nat→PN→PN
 | 0,p=>p
 | q+1,p=>dbN (D0m q p)
theorem E2f (q:Nat) (p:PN):Cq q (uP p)=uP (D0m q p):=by
 induction q with
 | zero=>rfl
 | succ q ih=>show Js (Cq q (uP p))=_;rw[ih,D1a];rfl
def C0i (k:N5) (p:PN):Nat→PN
 | 0=>A3c Gu A5y
 | 1=>Ia p
 | i+2=>A3a (C0i k p (i+1)) (Ia p) k
theorem Vq:U2 Eg=uP (A3c Gu A5y):=by
 have:Eg=uP ⟨Gu,Gu,Gu,Gu⟩:=rfl;rw[this,Ls];rfl
theorem B7t (k:N5) (p:PN):∀i,C0b (uP p) (u5 k) i=uP (C0i k p i)
 | 0=>Vq
 | 1=>Ls p
 | i+2=>by show Ac (C0b (uP p) (u5 k) (i+1)) (U2 (uP p)) (u5 k)=_;rw[B7t k p (i+1),Ls,Yl];rfl
def B9z (k:N5) (b:PN) (n:List UInt8) (p:PN) (m:List UInt8):Nat→PN
 | 0=>A3c Gu A5y
 | i+1=>A3a (A3a (D0m 4 (B9z k b n p m i)) (C0i k b (dg n (63-i))) k) (C0i k p (dg m (63-i))) k
theorem C2x {k:N5} {b:PN} (hk:F2=u5 k) (hb:C3=uP b) (n:List UInt8) (p:PN) (m:List UInt8):∀i,Ce n (uP p) m i=uP (B9z k b n p m i)
 | 0=>by
  show U6 (J8 C3 F2) 0=_;rw[Zj (by decide)];exact Vq
 | i+1=>by
  show Ac (Ac (Cq 4 (Ce n (uP p) m i)) (U6 (J8 C3 F2) (dg n (63-i))) F2) (U6 (J8 (uP p) F2) (dg m (63-i))) F2=_;rw[Zj (B5m _ _),Zj (B5m _ _),C2x hk hb n p m i,hk,hb,B7t,B7t,E2f,Yl,Yl];rfl
def C0r (k:N5):Nat→PN→PN
 | 0,p=>p
 | q+1,p=>D3n k (C0r k q p) (C0r k q p)
theorem C8a {k:N5} (hk:F2=u5 k) (p:PN):∀q,A2n q (uP p)=uP (C0r k q p)
 | 0=>rfl
 | q+1=>by show B3l (A2n q (uP p)) (A2n q (uP p))=_;rw[C8a hk p q,E1k hk];rfl
def B9l (k:N5) (p:PN):Bool:=A3t (C0r k 3 p)==h1 1
theorem D0b {k:N5} (hk:F2=u5 k) (p:PN):Sw (uP p)=B9l k p:=by unfold Sw B9l;rw[C8a hk,A9j]
def C0s (l:List PN) (i:Nat):PN:=l.getD i ⟨Gu,Gu,Gu,Gu⟩
def Qv (k:N5) (l:List PN) (n:List UInt8) (s:Nat) (r:PN):Nat→PN
 | 0=>r
 | i+1=>if C5d n i s then A3a (Qv k l n s r i) (C0s l i) k else Qv k l n s r i
def Yr (k:N5) (l:List PN) (n:List UInt8):Nat→PN
 | 0=>A3c Gu A5y
 | m+1=>Qv k l n (7-m) (dbN (Yr k l n m)) 32
theorem Zb {k:N5} {l:List PN} (hk:F2=u5 k) (hl:∀i,i<32→Ni i=uP (C0s l i)) (n:List UInt8) (s:Nat) (r:PN):∀i,i≤32→Cm n s (uP r) i=uP (Qv k l n s r i)
 | 0,_=>rfl
 | i+1,hi=>by
  unfold Cm Qv;split
  ·rw[Zb hk hl n s r i (by omega),hl i (by omega),hk,Yl]
  ·exact Zb hk hl n s r i (by omega)
theorem B5h {k:N5} {l:List PN} (hk:F2=u5 k) (hl:∀i,i<32→Ni i=uP (C0s l i)) (n:List UInt8):∀m,Ay n m=uP (Yr k l n m)
 | 0=>Vq
 | m+1=>by
  show Cm n (7-m) (Js (Ay n m)) 32=_;rw[B5h hk hl n m,D1a,Zb hk hl _ _ _ _ (Nat.le_refl _)];rfl
def rWN (u v:N5):N5:=Dw u (C8j v)
def D0u (u v:N5):N5:=Dw (A1h 2 (C1m (rWN u v))) (sqN (rWN u v))
def C2k (x w:N5):Bool:=Q3 (u5 (Dw x x))==Q3 (u5 w)
def D2y:N5:=⟨1718705420411056,234908883556509,2233514472574048,2117202627021982,765476049583133⟩
theorem D8a:Ih=u5 D2y:=rfl
def D8x (u v:N5):N5:=if C2k (D0u u v) (rWN u v) then D0u u v else Dw (D0u u v) D2y
def C9f (x:N5):N5:=if A2v (u5 x) then Yp Gu x else x
def rBN (u v:N5):Bool:=!(Q3 (u5 v)==z8 32)&&C2k (D8x u v) (rWN u v)
def rLN (u v:N5):N5:=if rBN u v then C9f (D8x u v) else Gu
theorem B0r (u v:N5):A0e (u5 u) (u5 v)=u5 (rWN u v):=by unfold A0e rWN;simp only[D3y,Fb]
theorem D2n (u v:N5):Wi (u5 u) (u5 v)=u5 (D0u u v):=by unfold Wi D0u;simp only[B0r,C2c,Ng,B4n,Fb]
theorem C9m (x w:N5):A8y (u5 x) (u5 w)=C2k x w:=by unfold A8y C2k;rw[Fb]
theorem B3c (u v:N5):Lk (u5 u) (u5 v)=u5 (D8x u v):=by
 unfold Lk D8x;rw[D2n,B0r,C9m,D8a,Fb];split<;>rfl
theorem E2q (x:N5):B8r (u5 x)=u5 (C9f x):=by
 unfold B8r C9f;have:M1 5=u5 Gu:=rfl;rw[this,Vf];split<;>rfl
theorem C0x (u v:N5):Gs (u5 u) (u5 v)=rBN u v:=by unfold Gs rBN;rw[B3c,B0r,C9m]
theorem D7m (u v:N5):Uz (u5 u) (u5 v)=u5 (rLN u v):=by
 unfold Uz rLN;rw[C0x,B3c,E2q];split<;>rfl
def D3m (kd y:N5):N5:=rLN (Yp (Dw y y) A5y) (Qf (Dw (Dw y y) kd) A5y)
def C2m (kd y:N5):Bool:=rBN (Yp (Dw y y) A5y) (Qf (Dw (Dw y y) kd) A5y)
theorem E3y {b:List UInt8} {kd y:N5} (hd:dee=u5 kd) (hy:Xf b=u5 y):Zy b=u5 (D3m kd y):=by
 unfold Zy D3m A3v A5h;rw[hy,hd,C1h];simp only[Fb,Vf,B1h,D7m]
theorem D5w {b:List UInt8} {kd y:N5} (hd:dee=u5 kd) (hy:Xf b=u5 y):Gs (A3v b) (A5h b)=C2m kd y:=by
 unfold C2m A3v A5h;rw[hy,hd,C1h];simp only[Fb,Vf,B1h,C0x]
theorem D8t {b:List UInt8} {kd y x:N5} (hd:dee=u5 kd) (hy:Xf b=u5 y) (hx:Zy b=u5 x) (h1:Ke (Yk b)=true) (h2:C2m kd y=true) (h3:(Nh b&&Q3 (u5 x)==z8 32)=false):Iq b=true:=by
 unfold Iq;rw[D5w hd hy,h1,h2,hx,h3];rfl
theorem E1z {b:List UInt8} {y x:N5} (ho:Iq b=true) (hy:Xf b=u5 y) (hx:Zy b=u5 x):Ds b=uP (A3c (if Nh b then Yp Gu x else x) y):=by
 unfold Ds;rw[if_pos ho,hx,hy,C0g,Vf];split<;>exact Tk _ _
section
def eq5 (x y:N5):Bool:=Nat.beq x.a y.a&&(Nat.beq x.b y.b&&(Nat.beq x.c y.c&&(Nat.beq x.d y.d&&Nat.beq x.e y.e)))
theorem A0b {x y:N5} (h:eq5 x y=true):x=y:=by
 obtain⟨a,b,c,d,e⟩:=x;obtain⟨a',b',c',d',e'⟩:=y;simp only[eq5,Bool.and_eq_true,Nat.beq_eq]at h;obtain⟨rfl,rfl,rfl,rfl,rfl⟩:=h;rfl
def eqP (p q:PN):Bool:=eq5 p.x q.x&&(eq5 p.y q.y&&(eq5 p.z q.z&&eq5 p.t q.t))
theorem B8x {p q:PN} (h:eqP p q=true):p=q:=by
 obtain⟨a,b,c,d⟩:=p;obtain⟨a',b',c',d'⟩:=q;simp only[eqP,Bool.and_eq_true]at h;rw[A0b h.1,A0b h.2.1,A0b h.2.2.1,A0b h.2.2.2]
set_option maxRecDepth 100000
set_option maxHeartbeats 0
def E1i:N5:=⟨929955233495203,466365720129213,1662059464998953,2033849074728123,1442794654840575⟩
def A7s:N5:=⟨1859910466990425,932731440258426,1072319116312658,1815898335770999,633789495995903⟩
def A4f:PN:=⟨⟨1738742601995546,1146398526822698,2070867633025821,562264141797630,587772402128613⟩,⟨1801439850948184,1351079888211148,450359962737049,900719925474099,1801439850948198⟩,⟨1,0,0,0,0⟩,⟨1841354044333475,16398895984059,755974180946558,900171276175154,1821297809914039⟩⟩
theorem D9v:dee=u5 E1i:=by decide +kernel
theorem B8y:F2=u5 A7s:=by decide +kernel
theorem D6e:Z2 A2m=u5 A4f.x:=by decide +kernel
theorem D6h:Z2 A3z=u5 A4f.y:=by decide +kernel
theorem D5l:eq5 (Dw A4f.x A4f.y) A4f.t=true:=by decide +kernel
theorem E4a:C3=uP A4f:=by
 show Cx (Z2 A2m) (Z2 A3z)=_;rw[D6e,D6h,Tk];unfold A3c;rw[A0b D5l];rfl
def B3y (row:List UInt8) (k:Nat):UInt8:=Un (g8 row (2*k)) <<< 4 ||| Un (g8 row (2*k+1))
theorem C1d (l:List UInt8) (n j:Nat):g8 (l.drop n) j=g8 l (n+j):=by
 unfold g8;rw[List.getD_eq_getElem?_getD,List.getD_eq_getElem?_getD,List.getElem?_drop]
theorem C4l (i:Nat):C2g i=Kc (B3y (Q9.drop (128*i))) 64 64:=by
 unfold C2g;have:Dt i=B3y (Q9.drop (128*i)):=by
  funext k;unfold Dt B3y;rw[C1d,C1d];rfl
 rw[this]
noncomputable def Y8 (i:Nat) (p:PN):Bool:=Z2 (C6 (Kc (B3y (Q9.drop (128*i))) 64 64) 0)==u5 p.x&&(Z2 (C6 (Kc (B3y (Q9.drop (128*i))) 64 64) 32)==u5 p.y&&eqP (A3c p.x p.y) p)
theorem T8 {i:Nat} {p:PN} (h:Y8 i p=true):Ni i=uP p:=by
 unfold Y8 at h;simp only[Bool.and_eq_true,beq_iff_eq]at h;unfold Ni;rw[C4l,h.1,h.2.1,Tk,B8x h.2.2]
def kL0:PN:=⟨⟨1738742601995546,1146398526822698,2070867633025821,562264141797630,587772402128613⟩,⟨1801439850948184,1351079888211148,450359962737049,900719925474099,1801439850948198⟩,⟨1,0,0,0,0⟩,⟨1841354044333475,16398895984059,755974180946558,900171276175154,1821297809914039⟩⟩
def kL1:PN:=⟨⟨207657587877206,2100806663644183,634766761317859,1794349103177875,1662326270124510⟩,⟨1161296182310599,941340786753986,2054541528034550,348227273872704,269755449941776⟩,⟨1,0,0,0,0⟩,⟨956558613127806,218246011415390,1471725144979126,911638385797892,1757616091032277⟩⟩
def kL2:PN:=⟨⟨1521219502450021,1846410879841235,34313878798212,10546997869797,1652014780966119⟩,⟨1658952464264246,301281990073328,1421351965663984,1976190811556149,784992082977218⟩,⟨1,0,0,0,0⟩,⟨892904545274529,1276862129681126,2227823945098524,1198975692454157,531459573462592⟩⟩
def kL3:PN:=⟨⟨227770048461431,487879623988285,1417664382069336,21120743092234,192648498818915⟩,⟨489485269993669,31434140373030,662742595234372,520860463613287,581679651492685⟩,⟨1,0,0,0,0⟩,⟨440709916510127,606245067725176,575712091139983,1665763122282094,1396451099334619⟩⟩
def kL4:PN:=⟨⟨2137057258114235,578737412616802,222102366986352,1234677837468596,1356664587499029⟩,⟨1722913527544090,2088871461428873,1128366041178413,803942221589082,1922039712175331⟩,⟨1,0,0,0,0⟩,⟨643056839880049,523898651151534,204380683349760,1233102105443002,2156664000083962⟩⟩
def kL5:PN:=⟨⟨1285304317579493,539645416220191,1912192162872302,1488507247591807,271320221614130⟩,⟨78734827152218,1357852017365999,290905538263157,908753962904692,1078524239176568⟩,⟨1,0,0,0,0⟩,⟨1377163577851704,1450974270990480,1438768082383222,73739011122910,715982777037845⟩⟩
def kL6:PN:=⟨⟨2139631458254162,114745178815772,1087650998417340,1304905119131584,1454119089317820⟩,⟨1848586308489622,611786136704735,745684036015187,324537442443163,1422099643653513⟩,⟨1,0,0,0,0⟩,⟨289958792114194,1718243155014068,618410686050882,2148570867678717,2200768563603231⟩⟩
def kL7:PN:=⟨⟨54901458865636,727536360848802,1177631862964415,1689752924059193,2003135700883297⟩,⟨373003406320657,975674768844653,407736244583094,1999031378370391,1009852647415928⟩,⟨1,0,0,0,0⟩,⟨1775725816775503,1049202381591688,1875336355828115,1273325138276258,1490320459503170⟩⟩
def kL8:PN:=⟨⟨962690963841538,2210719638316993,706068330177389,1384191282407386,1726421572252383⟩,⟨1964103625364243,307116021699043,120882883216088,20816463754899,55369446368493⟩,⟨1,0,0,0,0⟩,⟨1568907369646169,514127314339263,40774287502072,1976251032040224,1733588893334842⟩⟩
def kL9:PN:=⟨⟨1071545802964639,1907633890512027,1590806793797968,801793450737153,552650580738272⟩,⟨147714283167257,991334929770036,740594144646985,1359930762689594,2104011130007174⟩,⟨1,0,0,0,0⟩,⟨1753093361894213,1521233125158248,1386128832987038,1088053247760158,193516695534830⟩⟩
def F1s:PN:=⟨⟨513161589821684,135189712591322,268115112334192,732346932090735,1698600094179178⟩,⟨1926627679356154,546033803356952,1665378458738264,1140574075214145,1041362083641741⟩,⟨1,0,0,0,0⟩,⟨1353416909210792,1517015454331480,809582929435518,2005509998263633,1154861397913715⟩⟩
def F1h:PN:=⟨⟨1739414694272229,1521928877555375,1503334770669637,763386956585108,1862129073046365⟩,⟨1268802689912462,967753215362474,632928647924378,938581088869778,1093383925776355⟩,⟨1,0,0,0,0⟩,⟨1439619040869311,122358970891288,2003741039041763,1571825034906733,1553939020907850⟩⟩
def E9y:PN:=⟨⟨1228065289500112,1995656439401154,747490468072570,1771782479153808,1441803220130225⟩,⟨1133256506751681,1971401122869232,364740748818945,274858525947676,944245750712036⟩,⟨1,0,0,0,0⟩,⟨969799468763409,758675615912443,164497183604933,410658007103705,1365606147138959⟩⟩
def F1r:PN:=⟨⟨2050219849394447,2136640035013897,682111103158185,1698971002258475,442296111034018⟩,⟨558048773939678,897533695604502,1035891336244684,1945051063646027,220875155027932⟩,⟨1,0,0,0,0⟩,⟨136528770899845,637133720221738,1127633800314291,1677182430025837,1482130520813037⟩⟩
def F2o:PN:=⟨⟨513905658590587,680817969573829,1150970882872061,354648524841429,1182660725187364⟩,⟨1687245214141198,1499423053851412,1198492387236350,1278757245406394,1918084130941870⟩,⟨1,0,0,0,0⟩,⟨13131300766877,2018180793845027,437449436518264,116732650814892,1368575053372683⟩⟩
def E9w:PN:=⟨⟨124475054908452,1906983202879951,611701698187204,1873527664260246,1365903236220276⟩,⟨1978406422605413,1915091176750658,961916202316503,396934785157585,866421071701821⟩,⟨1,0,0,0,0⟩,⟨417773349695347,1654602006188621,985389090556103,1189633363629426,288170139646185⟩⟩
def F0r:PN:=⟨⟨78814272546852,343446598238096,1469662686845463,446722075312752,1339733442806879⟩,⟨770831939905131,1066752177064823,855905013023480,1194941381303059,1674322643330780⟩,⟨1,0,0,0,0⟩,⟨2025065385374602,84441031851324,1769310306558354,26295680040963,99051874860870⟩⟩
def F3k:PN:=⟨⟨2248752024183766,708723593180029,1256489519620460,1977762733290583,2173540277402287⟩,⟨356808580336773,889637948668713,2118215992267087,2196570670553569,497367236949540⟩,⟨1,0,0,0,0⟩,⟨637585733359542,1435081831225848,1456442193699608,1717437606507251,1447466321451996⟩⟩
def F2x:PN:=⟨⟨2102370904129425,9421038388327,922877803622304,1730456536722459,762334075187381⟩,⟨427580487847279,1800861300174619,848721725908694,1905002686634420,2174839152969707⟩,⟨1,0,0,0,0⟩,⟨268052600032300,1676250763249512,1344774212489870,1877856504985088,1551852259475401⟩⟩
def F3a:PN:=⟨⟨73949236156954,243328099540869,285103069684975,535059367582198,507523117579041⟩,⟨81762443123683,437772300968419,104708665526234,1600664443758511,2153009907310332⟩,⟨1,0,0,0,0⟩,⟨525185820960592,2109162826897277,1727597431782170,94579111876036,1943291465670801⟩⟩
def E8z:PN:=⟨⟨1007523394043953,877179782120715,750791257494571,1684193508924439,1481971162173362⟩,⟨892412035198752,724888969399762,189791939055799,650037373814668,58891993572333⟩,⟨1,0,0,0,0⟩,⟨2012424166711840,1051009010171064,985378134251402,340978745693086,76576796701879⟩⟩
def E7f:PN:=⟨⟨1221600705668234,422433434344282,1165451223563677,146148415932141,2233882774218833⟩,⟨27130515852506,1042767501773405,1627152082831711,2158630032433998,279351529642523⟩,⟨1,0,0,0,0⟩,⟨399543236321792,304278115101828,1696822803913734,1638181959782862,1187398200262185⟩⟩
def F1a:PN:=⟨⟨1707106071538538,1034947591101305,1883622717070250,2247368448221425,79795392053140⟩,⟨1911252298510640,413658976450780,1847058117559766,170234544819720,1035923066070357⟩,⟨1,0,0,0,0⟩,⟨1620168465800920,853903694194838,1629795986498023,449057437180843,773788728556441⟩⟩
def E8l:PN:=⟨⟨705317732516645,1259080967901750,110596001674658,152606910492821,257476921021274⟩,⟨2000400530866971,1099125665712498,1961944974262476,155981950177417,1046917659734111⟩,⟨1,0,0,0,0⟩,⟨730820343861142,1746061691430809,1882659248310344,918803715970310,1070778979244388⟩⟩
def F1c:PN:=⟨⟨798540852548237,1186388878089071,554557418141563,2038592377592718,488711206961541⟩,⟨833812069173299,646939731425630,1538221673810424,2137163637965756,1721356815521377⟩,⟨1,0,0,0,0⟩,⟨76009751102151,1911895294413367,1262509771121608,1445197895593765,460973337299855⟩⟩
def E8q:PN:=⟨⟨54500732029931,1229228649591394,1395999898189729,1718070411837384,1664301080442019⟩,⟨1903443165125547,559438718436641,993492825524625,534768921454925,1413903496556256⟩,⟨1,0,0,0,0⟩,⟨120803451939400,1228462511466555,1825422928562560,2073882328972608,1338393801812170⟩⟩
def F2v:PN:=⟨⟨2009719025433307,1338026402858380,368645885213984,1305913578656784,900000752165226⟩,⟨901384702181433,618421315369192,1461922630708682,1786955284772872,769606372041141⟩,⟨1,0,0,0,0⟩,⟨2237692444171697,2144656409190513,1435531634016049,1875943125805625,1458226165828182⟩⟩
def E6s:PN:=⟨⟨1290284552533580,149109026735730,152217355613238,1936628254954832,289514889573986⟩,⟨545116827004962,24791008572662,666030275103494,2077271970883202,731991509874304⟩,⟨1,0,0,0,0⟩,⟨682751199693311,2090280524683502,1447319815966402,753208601256438,2019644203483639⟩⟩
def E9m:PN:=⟨⟨66253276699711,1252511340070009,2001984381343139,1811095600397663,2073215811985677⟩,⟨1623460295322413,1593143032869612,1227910477134078,174031738331835,1854653122047196⟩,⟨1,0,0,0,0⟩,⟨378835871973892,862775089586864,2213372231758376,1367038889672674,1837642890635372⟩⟩
def F2z:PN:=⟨⟨855109427260935,1192666648398113,1070509169023896,49743400943463,2059455722217761⟩,⟨1868326402194645,1731588568080711,734486077860206,1792565842527341,1694206596449169⟩,⟨1,0,0,0,0⟩,⟨1030568103689263,1717414762294505,1289812983312952,428593515366431,1052052483814347⟩⟩
def E8n:PN:=⟨⟨1078783740036999,198946038155516,1242334275692922,1915693194367353,716690677826317⟩,⟨1158255922756604,2050076295205690,816279270940781,485560714163174,1498485971338264⟩,⟨1,0,0,0,0⟩,⟨949271686208484,1835219553732856,1146775173265892,2161931743141499,1913301798815708⟩⟩
def F3p:PN:=⟨⟨302555565364767,1820588068919652,772267205884354,1865066538047563,1551475371085944⟩,⟨1996585736328222,70826822300604,211627457424574,562895043924503,1826585557779011⟩,⟨1,0,0,0,0⟩,⟨338531462563851,1655232836796258,315301918780359,145172540828775,2195524900867729⟩⟩
theorem F6q:Y8 0 kL0=true:=by decide +kernel
theorem F6v:Y8 1 kL1=true:=by decide +kernel
theorem F6p:Y8 2 kL2=true:=by decide +kernel
theorem F8j:Y8 3 kL3=true:=by decide +kernel
theorem F8a:Y8 4 kL4=true:=by decide +kernel
theorem F6o:Y8 5 kL5=true:=by decide +kernel
theorem F8m:Y8 6 kL6=true:=by decide +kernel
theorem F7q:Y8 7 kL7=true:=by decide +kernel
theorem F7g:Y8 8 kL8=true:=by decide +kernel
theorem F7h:Y8 9 kL9=true:=by decide +kernel
theorem F1w:Y8 10 F1s=true:=by decide +kernel
theorem F3f:Y8 11 F1h=true:=by decide +kernel
theorem F1m:Y8 12 E9y=true:=by decide +kernel
theorem F3u:Y8 13 F1r=true:=by decide +kernel
theorem E7n:Y8 14 F2o=true:=by decide +kernel
theorem F3b:Y8 15 E9w=true:=by decide +kernel
theorem F2p:Y8 16 F0r=true:=by decide +kernel
theorem F3o:Y8 17 F3k=true:=by decide +kernel
theorem E7b:Y8 18 F2x=true:=by decide +kernel
theorem E7h:Y8 19 F3a=true:=by decide +kernel
theorem F3s:Y8 20 E8z=true:=by decide +kernel
theorem E7p:Y8 21 E7f=true:=by decide +kernel
theorem E7m:Y8 22 F1a=true:=by decide +kernel
theorem E9q:Y8 23 E8l=true:=by decide +kernel
theorem E9f:Y8 24 F1c=true:=by decide +kernel
theorem E7i:Y8 25 E8q=true:=by decide +kernel
theorem E8h:Y8 26 F2v=true:=by decide +kernel
theorem F1j:Y8 27 E6s=true:=by decide +kernel
theorem F3c:Y8 28 E9m=true:=by decide +kernel
theorem F1q:Y8 29 F2z=true:=by decide +kernel
theorem E9j:Y8 30 E8n=true:=by decide +kernel
theorem F2y:Y8 31 F3p=true:=by decide +kernel
def D6q:List PN:=[kL0,kL1,kL2,kL3,kL4,kL5,kL6,kL7,kL8,kL9,F1s,F1h,E9y,F1r,F2o,E9w,F0r,F3k,F2x,F3a,E8z,E7f,F1a,E8l,F1c,E8q,F2v,E6s,E9m,F2z,E8n,F3p]
theorem E8e:∀i,i<32→Ni i=uP (C0s D6q i):=by
 intro i hi;match i,hi with
 | 0,_=>exact T8 F6q
 | 1,_=>exact T8 F6v
 | 2,_=>exact T8 F6p
 | 3,_=>exact T8 F8j
 | 4,_=>exact T8 F8a
 | 5,_=>exact T8 F6o
 | 6,_=>exact T8 F8m
 | 7,_=>exact T8 F7q
 | 8,_=>exact T8 F7g
 | 9,_=>exact T8 F7h
 | 10,_=>exact T8 F1w
 | 11,_=>exact T8 F3f
 | 12,_=>exact T8 F1m
 | 13,_=>exact T8 F3u
 | 14,_=>exact T8 E7n
 | 15,_=>exact T8 F3b
 | 16,_=>exact T8 F2p
 | 17,_=>exact T8 F3o
 | 18,_=>exact T8 E7b
 | 19,_=>exact T8 E7h
 | 20,_=>exact T8 F3s
 | 21,_=>exact T8 E7p
 | 22,_=>exact T8 E7m
 | 23,_=>exact T8 E9q
 | 24,_=>exact T8 E9f
 | 25,_=>exact T8 E7i
 | 26,_=>exact T8 E8h
 | 27,_=>exact T8 F1j
 | 28,_=>exact T8 F3c
 | 29,_=>exact T8 F1q
 | 30,_=>exact T8 E9j
 | 31,_=>exact T8 F2y
 | n+32,h=>exact absurd h (by omega)
theorem B2q {n:List UInt8} {q:PN} {b:List UInt8} (h:Yr A7s D6q n 8=q) (e:(A3t q==b)=true):E3 (F9 C3 n)=b:=by
 have h1:F9 C3 n=Rt n:=B6n n (beq_self_eq_true _);rw[h1];show E3 (Ay n 8)=b;rw[B5h B8y E8e,h,A9j];exact eq_of_beq e
end
structure Ev where
 A:List UInt8
 S:List UInt8
 B:List UInt8
 M:List UInt8
 F:List UInt8
 RB:List UInt8
 KB:List UInt8
 SB:List UInt8
 R:List UInt64
 K:List UInt64
 Y:N5
 X:N5
 P:PN
 Q:PN
noncomputable def Ev.c1 (e:Ev) (sd ky:List UInt8):Bool:=J3 sd==e.A&&(I7 sd==e.S&&(Bo 1 (Ad 1 ky)==e.M&&(E8 [e.S,e.M]==e.R&&(E0 e.R==e.RB&&E8 [e.F,e.B,e.M]==e.K))))
noncomputable def Ev.c2 (e:Ev):Bool:=A3t (Yr A7s D6q e.A 8)==e.B
noncomputable def Ev.c3 (e:Ev):Bool:=A3t (Yr A7s D6q e.RB 8)==e.F
noncomputable def Ev.c4 (e:Ev):Bool:=E0 (Gm e.R (Fl e.K (M6 e.A)))==e.SB&&(Ep (Ep (z8 64) 0 e.F) 32 e.SB==e.F++e.SB&&(Xf e.B==u5 e.Y&&(eq5 (D3m E1i e.Y) e.X&&(Ke (Yk e.B)&&(C2m E1i e.Y&&(!(Nh e.B&&Q3 (u5 e.X)==z8 32)&&(eqP (A3c (if Nh e.B then Yp Gu e.X else e.X) e.Y) e.P && !B9l A7s e.P)))))))
noncomputable def Ev.c5 (e:Ev):Bool:=eqP (E3e e.P) e.Q&&(C6 (e.F++e.SB) 0==e.F&&(C6 (e.F++e.SB) 32==e.SB&&(Tb e.SB&&(E0 (Df e.SB)==e.SB&&E0 e.K==e.KB))))
noncomputable def Ev.c6 (e:Ev):Bool:=A3t (B9z A7s A4f e.SB e.Q e.KB 64)==e.F
theorem Ev.upd {e:Ev} {sd ky:List UInt8} (h1:e.c1 sd ky=true) (h2:e.c2=true) (h3:e.c3=true) (h4:e.c4=true) (h5:e.c5=true) (h6:e.c6=true) :
 mkU sd 1 ky=⟨e.B,1,ky,e.F++e.SB⟩∧signedB (mkU sd 1 ky)=true:=by
 simp only[Ev.c1,Ev.c2,Ev.c3,Ev.c4,Ev.c5,Ev.c6,Bool.and_eq_true,beq_iff_eq,Bool.not_eq_true']at h1 h2 h3 h4 h5 h6;obtain⟨a1,a2,a3,a4,a5,a6⟩:=h1;obtain⟨b1,b2,b3,b4,b5,b6,b7,b8,b9⟩:=h4;obtain⟨d1,d2,d3,d4,d5,d6⟩:=h5;have aB:Cl sd=e.B:=by unfold Cl;rw[a1];exact B2q rfl (by rw[h2];exact beq_self_eq_true _)
 have r:sgR sd [e.M]=e.R:=by unfold sgR;rw[a2,a4]
 have f:sgF sd [e.M]=e.F:=by unfold sgF;rw[r,a5];exact B2q rfl (by rw[h3];exact beq_self_eq_true _)
 have k:sgK sd [e.M]=e.K:=by unfold sgK;rw[f,aB,a6]
 have s:sgS sd [e.M]=e.SB:=by unfold sgS;rw[r,k,a1,b1]
 have sg:Sk sd [e.M]=e.F++e.SB:=by unfold Sk;rw[f,s,b2]
 have upd:mkU sd 1 ky=⟨e.B,1,ky,e.F++e.SB⟩:=by unfold mkU Iz;rw[aB,a3,sg]
 have x:Zy e.B=u5 e.X:=by rw[E3y D9v b3,A0b b4]
 have ok:=D8t D9v b3 x b5 b6 b7;have p:Ds e.B=uP e.P:=by rw[E1z ok b3 x,B8x b8]
 have aA:Sw (Ds e.B)=false:=by rw[p,D0b B8y];exact b9
 have vf:vfH e.B (e.F++e.SB) [e.M]=e.F:=by unfold vfH vfK;rw[d2,d3,a6,d5,d6,p,E4n,B8x d1];show E3 (Ce e.SB (uP e.Q) e.KB 64)=e.F;rw[C2x B8y E4a,A9j];exact h6
 refine ⟨upd,?_⟩;rw[upd,A5j rfl rfl];show Hg e.B 1 (Ad 1 ky) (e.F++e.SB)=true;unfold Hg;rw[a3];unfold Eh;rw[ok,aA,d3,d4,vf,d2];simp
section
set_option maxRecDepth 100000
set_option maxHeartbeats 0
def eu9:Ev:=⟨[200,12,38,94,204,130,221,140,238,110,86,206,68,228,93,175,215,160,197,117,13,249,20,178,83,161,251,122,138,246,109,91],[153,118,54,7,240,168,93,11,212,54,105,25,74,58,64,87,122,82,138,243,149,244,241,126,6,241,222,252,198,222,178,165],[206,204,21,7,220,29,221,114,149,149,28,41,8,136,240,149,173,185,4,77,27,115,214,150,230,223,6,93,104,59,212,252],[119,105,116,97,110,1,0,0,0,0,0,0,0,40,0,0,0,0,0,0,0,1,2,0,0,0,0,0,0,0,0,0,0,0,0,0,0,0,0,0,0,0,0,0,0,0,0,0,0,0,0,0,0,0],[64,101,153,252,184,252,127,12,178,104,81,213,210,93,225,110,129,25,57,11,233,232,78,111,238,98,161,158,158,160,9,221],[167,252,29,139,182,217,45,132,98,137,196,27,99,180,115,68,110,202,10,208,71,8,74,92,133,143,5,193,177,247,82,15],[214,238,226,20,71,240,237,40,73,55,30,53,211,205,43,118,196,138,196,95,192,113,100,57,43,128,41,30,173,73,71,15],[32,243,253,161,234,217,59,155,58,20,160,32,162,85,10,218,5,180,99,46,43,65,14,16,108,211,123,246,150,20,197,13],[9524508164999740583,4932484354661452130,6650136904292026990,1104217201478832005],[2949277519081303766,8515125827487020873,4135555428887333572,1100929641799581739],⟨1440205732433102,287125319888475,1146682017825312,2237830084005286,2196015545700461⟩,⟨626536395482458,295576395633887,1336003373205109,698547845527882,1208567494868599⟩,⟨⟨1625263418202771,1956223418051360,915796440480138,1553251968157365,1043232318816648⟩,⟨1440205732433102,287125319888475,1146682017825312,2237830084005286,2196015545700461⟩,⟨1,0,0,0,0⟩,⟨243950350799911,1923543989867015,1055101283805844,742455266160301,82920972177670⟩⟩,⟨⟨626536395482458,295576395633887,1336003373205109,698547845527882,1208567494868599⟩,⟨1440205732433102,287125319888475,1146682017825312,2237830084005286,2196015545700461⟩,⟨1,0,0,0,0⟩,⟨2007849462885318,328255823818232,1196698529879403,1509344547524946,2168878841507577⟩⟩⟩
theorem E8u:mkU (h1 1) 1 (h1 2)=⟨eu9.B,1,h1 2,eu9.F++eu9.SB⟩∧signedB (mkU (h1 1) 1 (h1 2))=true:=Ev.upd (by decide +kernel) (by decide +kernel) (by decide +kernel) (by decide +kernel) (by decide +kernel) (by decide +kernel)
end
end Go.Proofs.YtlegpkdighoflaaGreat
