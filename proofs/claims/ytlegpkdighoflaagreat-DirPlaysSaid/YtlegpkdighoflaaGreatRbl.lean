/- A part of the proof of DirPlays. -/
import Derived.Test.YtlegpkdighoflaaGreatRaz
set_option linter.unusedVariables false
set_option linter.unusedSimpArgs false
set_option maxRecDepth 100000
set_option maxHeartbeats 40000000
namespace Go.Proofs.YtlegpkdighoflaaGreat
open Go Go.RowKit Sh
structure N5 where
 a:Nat
 b:Nat
 c:Nat
 d:Nat
 e:Nat
def u5 (x:N5):List UInt64:=[UInt64.ofNat x.a,UInt64.ofNat x.b,UInt64.ofNat x.c,UInt64.ofNat x.d,UInt64.ofNat x.e]
@[simp] theorem E0l (x : N5) : (u5 x).length = 5 := rfl
def D3c (x0 x1 x2 x3 x4:Nat):N5:=
 ⟨Nat.add (Nat.mod x0 2251799813685248) (Nat.mul 19 (Nat.div (Nat.mod x4 18446744073709551616) 2251799813685248)),
  Nat.add (Nat.mod x1 2251799813685248) (Nat.div (Nat.mod x0 18446744073709551616) 2251799813685248),
  Nat.add (Nat.mod x2 2251799813685248) (Nat.div (Nat.mod x1 18446744073709551616) 2251799813685248),
  Nat.add (Nat.mod x3 2251799813685248) (Nat.div (Nat.mod x2 18446744073709551616) 2251799813685248),
  Nat.add (Nat.mod x4 2251799813685248) (Nat.div (Nat.mod x3 18446744073709551616) 2251799813685248)⟩
def D6k (t0 t1 t2 t3 t4:Nat):N5:=
 D3c (Nat.add (Nat.mod t0 2251799813685248) (Nat.mul 19 (Nat.div t4 2251799813685248)))
  (Nat.add (Nat.mod t1 2251799813685248) (Nat.div t0 2251799813685248))
  (Nat.add (Nat.mod t2 2251799813685248) (Nat.div t1 2251799813685248))
  (Nat.add (Nat.mod t3 2251799813685248) (Nat.div t2 2251799813685248))
  (Nat.add (Nat.mod t4 2251799813685248) (Nat.div t3 2251799813685248))
def C5r (a b c d e:Nat):Nat:=Nat.add (Nat.add (Nat.add (Nat.add a b) c) d) e
def w64e (x:Nat):Nat:=Nat.mod x 18446744073709551616
def E5f (a0 a1 a2 a3 a4 b0 b1 b2 b3 b4 n1 n2 n3 n4:Nat):N5:=
 D6k (C5r (Nat.mul a0 b0) (Nat.mul n1 b4) (Nat.mul n2 b3) (Nat.mul n3 b2) (Nat.mul n4 b1))
  (C5r (Nat.mul a0 b1) (Nat.mul a1 b0) (Nat.mul n2 b4) (Nat.mul n3 b3) (Nat.mul n4 b2))
  (C5r (Nat.mul a0 b2) (Nat.mul a1 b1) (Nat.mul a2 b0) (Nat.mul n3 b4) (Nat.mul n4 b3))
  (C5r (Nat.mul a0 b3) (Nat.mul a1 b2) (Nat.mul a2 b1) (Nat.mul a3 b0) (Nat.mul n4 b4))
  (C5r (Nat.mul a0 b4) (Nat.mul a1 b3) (Nat.mul a2 b2) (Nat.mul a3 b1) (Nat.mul a4 b0))
def Fw (x y:N5):N5:=
 E5f (w64e x.a) (w64e x.b) (w64e x.c) (w64e x.d) (w64e x.e) (w64e y.a) (w64e y.b) (w64e y.c) (w64e y.d) (w64e y.e)
  (w64e (Nat.mul 19 x.b)) (w64e (Nat.mul 19 x.c)) (w64e (Nat.mul 19 x.d)) (w64e (Nat.mul 19 x.e))
def sqG (a0 a1 a2 a3 a4 d0 d1 d2 d3 n3 n4:Nat):N5:=
 D6k (Nat.add (Nat.add (Nat.mul a0 a0) (Nat.mul d1 n4)) (Nat.mul d2 n3))
  (Nat.add (Nat.add (Nat.mul d0 a1) (Nat.mul d2 n4)) (Nat.mul a3 n3))
  (Nat.add (Nat.add (Nat.mul d0 a2) (Nat.mul a1 a1)) (Nat.mul d3 n4))
  (Nat.add (Nat.add (Nat.mul d0 a3) (Nat.mul d1 a2)) (Nat.mul a4 n4))
  (Nat.add (Nat.add (Nat.mul d0 a4) (Nat.mul d1 a3)) (Nat.mul a2 a2))
def sqN (x:N5):N5:=
 sqG (w64e x.a) (w64e x.b) (w64e x.c) (w64e x.d) (w64e x.e) (w64e (Nat.mul 2 x.a)) (w64e (Nat.mul 2 x.b)) (w64e (Nat.mul 2 x.c)) (w64e (Nat.mul 2 x.d)) (w64e (Nat.mul 19 x.d)) (w64e (Nat.mul 19 x.e))
def Rl (x y:N5):N5:=D3c (Nat.add x.a y.a) (Nat.add x.b y.b) (Nat.add x.c y.c) (Nat.add x.d y.d) (Nat.add x.e y.e)
def Xa (x y:N5):N5:=
 D3c (Nat.add x.a (Nat.sub 18455751272964292532 (w64e y.a))) (Nat.add x.b (Nat.sub 18455751272964292604 (w64e y.b))) (Nat.add x.c (Nat.sub 18455751272964292604 (w64e y.c))) (Nat.add x.d (Nat.sub 18455751272964292604 (w64e y.d))) (Nat.add x.e (Nat.sub 18455751272964292604 (w64e y.e)))
def A1a:Nat→N5→N5
 | 0,a=>a
 | q+1,a=>sqN (A1a q a)
def d2 (n:Nat):List UInt64:=[UInt64.ofNat (n / 18446744073709551616),UInt64.ofNat n]
theorem Z1 (n:Nat):(UInt64.ofNat n).toNat=n % 18446744073709551616:=UInt64.toNat_ofNat' ..
theorem Vt (a b:Nat):UInt64.ofNat a+UInt64.ofNat b=UInt64.ofNat (a+b):=by
 apply UInt64.toNat_inj.1;rw[UInt64.toNat_add,Z1,Z1,Z1];omega
theorem A8y (a b:Nat):UInt64.ofNat a*UInt64.ofNat b=UInt64.ofNat (a*b):=by
 apply UInt64.toNat_inj.1;rw[UInt64.toNat_mul,Z1,Z1,Z1];exact (Nat.mul_mod _ _ _).symm
theorem Bj (a:Nat):UInt64.ofNat (w64e a)=UInt64.ofNat a:=by
 apply UInt64.toNat_inj.1;rw[Z1,Z1];show a % 18446744073709551616 % 18446744073709551616=_;omega
theorem C7l (a:Nat):UInt64.ofNat a &&& (2251799813685247:UInt64)=UInt64.ofNat (a % 2251799813685248):=by
 apply UInt64.toNat_inj.1;rw[UInt64.toNat_and,Z1,Z1];rw[show (2251799813685247:UInt64).toNat=2 ^ 51-1 from rfl,Nat.and_two_pow_sub_one_eq_mod];omega
theorem D6e (a:Nat):UInt64.ofNat a >>> (51:UInt64)=UInt64.ofNat (a % 18446744073709551616 / 2251799813685248):=by
 apply UInt64.toNat_inj.1;rw[UInt64.toNat_shiftRight,Z1,Z1,show (51:UInt64).toNat % 64=51 from rfl,Nat.shiftRight_eq_div_pow];omega
theorem B8s (x y:Nat) (hx:x<18446744073709551616) (hy:y<18446744073709551616):Cp (UInt64.ofNat x) (UInt64.ofNat y)=d2 (x*y):=by
 unfold Cp B3l d2;rw[A8y,Z1,Z1,Nat.mod_eq_of_lt hx,Nat.mod_eq_of_lt hy]
theorem B2n (n x y:Nat) (hx:x<18446744073709551616) (hy:y<18446744073709551616):N9 (d2 n) (UInt64.ofNat x) (UInt64.ofNat y)=d2 (n+x*y):=by
 have e0:F9 (d2 n) 0=UInt64.ofNat (n / 18446744073709551616):=rfl;have e1:F9 (d2 n) 1=UInt64.ofNat n:=rfl;unfold N9;rw[e0,e1];unfold d2 Za A0w B3l;have z:(0:UInt64)=UInt64.ofNat 0:=rfl;rw[A8y,Z1,Z1,Z1,Z1,Nat.mod_eq_of_lt hx,Nat.mod_eq_of_lt hy,z,Z1,Vt,Vt,Vt,Vt];generalize x*y=p;have:UInt64.ofNat (p / 18446744073709551616+n / 18446744073709551616+(p % 18446744073709551616+n % 18446744073709551616+0 % 18446744073709551616) / 18446744073709551616)=UInt64.ofNat ((n+p) / 18446744073709551616):=by congr 1;omega
 rw[this];congr 2;congr 1;omega
theorem D3m (n:Nat):over (d2 n)=UInt64.ofNat (n / 2251799813685248):=by
 have e0:F9 (d2 n) 0=UInt64.ofNat (n / 18446744073709551616):=rfl;have e1:F9 (d2 n) 1=UInt64.ofNat n:=rfl;unfold over;rw[e0,e1];apply UInt64.toNat_inj.1;rw[UInt64.toNat_or,UInt64.toNat_shiftLeft,UInt64.toNat_shiftRight,Z1,Z1,Z1,show (51:UInt64).toNat % 64=51 from rfl,show (13:UInt64).toNat % 64=13 from rfl,Nat.shiftRight_eq_div_pow,Nat.shiftLeft_eq];have e:n / 18446744073709551616 % 18446744073709551616*2 ^ 13 % 2 ^ 64=(n / 18446744073709551616 % 2251799813685248) <<< 13:=by rw[Nat.shiftLeft_eq];omega
 rw[e,←Nat.shiftLeft_add_eq_or_of_lt (by omega),Nat.shiftLeft_eq];omega
theorem D6a (n:Nat):F9 (d2 n) 1 &&& (2251799813685247:UInt64)=UInt64.ofNat (n % 2251799813685248):=C7l n
theorem Gq (a:Nat):19*UInt64.ofNat a=UInt64.ofNat (19*a):=A8y 19 a
theorem A9j (a:Nat):2*UInt64.ofNat a=UInt64.ofNat (2*a):=A8y 2 a
theorem B6b (x0 x1 x2 x3 x4:Nat):Ia [UInt64.ofNat x0,UInt64.ofNat x1,UInt64.ofNat x2,UInt64.ofNat x3,UInt64.ofNat x4]=u5 (D3c x0 x1 x2 x3 x4):=by
 show [(UInt64.ofNat x0 &&& (2251799813685247:UInt64))+19*(UInt64.ofNat x4 >>> (51:UInt64)),(UInt64.ofNat x1 &&& (2251799813685247:UInt64))+UInt64.ofNat x0 >>> (51:UInt64),(UInt64.ofNat x2 &&& (2251799813685247:UInt64))+UInt64.ofNat x1 >>> (51:UInt64),(UInt64.ofNat x3 &&& (2251799813685247:UInt64))+UInt64.ofNat x2 >>> (51:UInt64),(UInt64.ofNat x4 &&& (2251799813685247:UInt64))+UInt64.ofNat x3 >>> (51:UInt64)]=_;simp only[C7l,D6e,Gq,Vt];rfl
theorem C5l (t0 t1 t2 t3 t4:Nat):Qc (d2 t0) (d2 t1) (d2 t2) (d2 t3) (d2 t4)=u5 (D6k t0 t1 t2 t3 t4):=by
 unfold Qc C4r;simp only[D6a,D3m,Gq,Vt];rw[B6b];rfl
theorem Tc (a:Nat):w64e a<18446744073709551616:=Nat.mod_lt _ (by decide)
theorem Gy (x y:N5):C4 (u5 x) (u5 y)=u5 (Fw x y):=by
 obtain⟨a0,a1,a2,a3,a4⟩:=x;obtain⟨b0,b1,b2,b3,b4⟩:=y;have e0:F9 (u5 ⟨a0,a1,a2,a3,a4⟩) 0=UInt64.ofNat (w64e a0):=(Bj _).symm;have e1:F9 (u5 ⟨a0,a1,a2,a3,a4⟩) 1=UInt64.ofNat (w64e a1):=(Bj _).symm;have e2:F9 (u5 ⟨a0,a1,a2,a3,a4⟩) 2=UInt64.ofNat (w64e a2):=(Bj _).symm;have e3:F9 (u5 ⟨a0,a1,a2,a3,a4⟩) 3=UInt64.ofNat (w64e a3):=(Bj _).symm;have e4:F9 (u5 ⟨a0,a1,a2,a3,a4⟩) 4=UInt64.ofNat (w64e a4):=(Bj _).symm;have f0:F9 (u5 ⟨b0,b1,b2,b3,b4⟩) 0=UInt64.ofNat (w64e b0):=(Bj _).symm;have f1:F9 (u5 ⟨b0,b1,b2,b3,b4⟩) 1=UInt64.ofNat (w64e b1):=(Bj _).symm;have f2:F9 (u5 ⟨b0,b1,b2,b3,b4⟩) 2=UInt64.ofNat (w64e b2):=(Bj _).symm;have f3:F9 (u5 ⟨b0,b1,b2,b3,b4⟩) 3=UInt64.ofNat (w64e b3):=(Bj _).symm;have f4:F9 (u5 ⟨b0,b1,b2,b3,b4⟩) 4=UInt64.ofNat (w64e b4):=(Bj _).symm;have n1:19*UInt64.ofNat (w64e a1)=UInt64.ofNat (w64e (Nat.mul 19 a1)):=by rw[Bj,Bj];exact Gq _
 have n2:19*UInt64.ofNat (w64e a2)=UInt64.ofNat (w64e (Nat.mul 19 a2)):=by rw[Bj,Bj];exact Gq _
 have n3:19*UInt64.ofNat (w64e a3)=UInt64.ofNat (w64e (Nat.mul 19 a3)):=by rw[Bj,Bj];exact Gq _
 have n4:19*UInt64.ofNat (w64e a4)=UInt64.ofNat (w64e (Nat.mul 19 a4)):=by rw[Bj,Bj];exact Gq _
 unfold C4 Wt Wn Wm Wr Vy;rw[e0,e1,e2,e3,e4,f0,f1,f2,f3,f4,n1,n2,n3,n4];unfold Fw E5f;dsimp only;simp only[B8s _ _ (Tc _) (Tc _),B2n _ _ _ (Tc _) (Tc _)];exact C5l _ _ _ _ _
theorem B1e (x:N5):Rp (u5 x)=u5 (sqN x):=by
 obtain⟨a0,a1,a2,a3,a4⟩:=x;have e0:F9 (u5 ⟨a0,a1,a2,a3,a4⟩) 0=UInt64.ofNat (w64e a0):=(Bj _).symm;have e1:F9 (u5 ⟨a0,a1,a2,a3,a4⟩) 1=UInt64.ofNat (w64e a1):=(Bj _).symm;have e2:F9 (u5 ⟨a0,a1,a2,a3,a4⟩) 2=UInt64.ofNat (w64e a2):=(Bj _).symm;have e3:F9 (u5 ⟨a0,a1,a2,a3,a4⟩) 3=UInt64.ofNat (w64e a3):=(Bj _).symm;have e4:F9 (u5 ⟨a0,a1,a2,a3,a4⟩) 4=UInt64.ofNat (w64e a4):=(Bj _).symm;have n3:19*UInt64.ofNat (w64e a3)=UInt64.ofNat (w64e (Nat.mul 19 a3)):=by rw[Bj,Bj];exact Gq _
 have n4:19*UInt64.ofNat (w64e a4)=UInt64.ofNat (w64e (Nat.mul 19 a4)):=by rw[Bj,Bj];exact Gq _
 have m0:2*UInt64.ofNat (w64e a0)=UInt64.ofNat (w64e (Nat.mul 2 a0)):=by rw[Bj,Bj];exact A9j _
 have m1:2*UInt64.ofNat (w64e a1)=UInt64.ofNat (w64e (Nat.mul 2 a1)):=by rw[Bj,Bj];exact A9j _
 have m2:2*UInt64.ofNat (w64e a2)=UInt64.ofNat (w64e (Nat.mul 2 a2)):=by rw[Bj,Bj];exact A9j _
 have m3:2*UInt64.ofNat (w64e a3)=UInt64.ofNat (w64e (Nat.mul 2 a3)):=by rw[Bj,Bj];exact A9j _
 unfold Rp A4g A1s A2b A4u A5g;rw[e0,e1,e2,e3,e4,m0,m1,m2,m3,n3,n4];unfold sqN sqG;dsimp only;simp only[B8s _ _ (Tc _) (Tc _),B2n _ _ _ (Tc _) (Tc _)];exact C5l _ _ _ _ _
theorem A8a (x y:N5):C8 (u5 x) (u5 y)=u5 (Rl x y):=by
 obtain⟨a0,a1,a2,a3,a4⟩:=x;obtain⟨b0,b1,b2,b3,b4⟩:=y;have e:D8g (u5 ⟨a0,a1,a2,a3,a4⟩) (u5 ⟨b0,b1,b2,b3,b4⟩)=[UInt64.ofNat a0+UInt64.ofNat b0,UInt64.ofNat a1+UInt64.ofNat b1,UInt64.ofNat a2+UInt64.ofNat b2,UInt64.ofNat a3+UInt64.ofNat b3,UInt64.ofNat a4+UInt64.ofNat b4]:=rfl;unfold C8;rw[e];simp only[Vt];exact B6b _ _ _ _ _
theorem A8v (a b:Nat):UInt64.ofNat a+(9007199254740988-UInt64.ofNat b)=UInt64.ofNat (a+(18455751272964292604-w64e b)):=by
 apply UInt64.toNat_inj.1;rw[UInt64.toNat_add,UInt64.toNat_sub,Z1,Z1,Z1];have:(9007199254740988:UInt64).toNat=9007199254740988:=rfl;rw[this];show _=(a+(18455751272964292604-b % 18446744073709551616)) % 18446744073709551616;omega
theorem D2r (a b:Nat):UInt64.ofNat a+(9007199254740988-UInt64.ofNat b)-72=UInt64.ofNat (a+(18455751272964292532-w64e b)):=by
 apply UInt64.toNat_inj.1;rw[UInt64.toNat_sub,UInt64.toNat_add,UInt64.toNat_sub,Z1,Z1,Z1];have:(9007199254740988:UInt64).toNat=9007199254740988:=rfl;rw[this];have:(72:UInt64).toNat=72:=rfl;rw[this];show _=(a+(18455751272964292532-b % 18446744073709551616)) % 18446744073709551616;omega
theorem Vm (x y:N5):E8 (u5 x) (u5 y)=u5 (Xa x y):=by
 obtain⟨a0,a1,a2,a3,a4⟩:=x;obtain⟨b0,b1,b2,b3,b4⟩:=y;have e:C8u (u5 ⟨a0,a1,a2,a3,a4⟩) (u5 ⟨b0,b1,b2,b3,b4⟩)=[UInt64.ofNat a0+(9007199254740988-UInt64.ofNat b0)-72,UInt64.ofNat a1+(9007199254740988-UInt64.ofNat b1),UInt64.ofNat a2+(9007199254740988-UInt64.ofNat b2),UInt64.ofNat a3+(9007199254740988-UInt64.ofNat b3),UInt64.ofNat a4+(9007199254740988-UInt64.ofNat b4)]:=rfl;unfold E8;rw[e];rw[D2r,A8v,A8v,A8v,A8v];exact B6b _ _ _ _ _
theorem Pe (n:Nat) (x:N5):Ct n (u5 x)=u5 (A1a n x):=by
 induction n with
 | zero=>rfl
 | succ n ih=>show Rp (Ct n (u5 x))=_;rw[ih,B1e];rfl
def B7i (a:N5):N5:=Fw (A1a 2 (sqN a)) a
def A1p (a:N5):N5:=Fw (B7i a) (sqN a)
def n5 (a:N5):N5:=Fw (sqN (A1p a)) (B7i a)
def n10 (a:N5):N5:=Fw (A1a 5 (n5 a)) (n5 a)
def n20 (a:N5):N5:=Fw (A1a 10 (n10 a)) (n10 a)
def n50 (a:N5):N5:=Fw (A1a 10 (Fw (A1a 20 (n20 a)) (n20 a))) (n10 a)
def D1e (a:N5):N5:=Fw (A1a 50 (n50 a)) (n50 a)
def B8e (a:N5):N5:=Fw (A1a 50 (Fw (A1a 100 (D1e a)) (D1e a))) (n50 a)
def C5j (a:N5):N5:=Fw (A1a 5 (B8e a)) (A1p a)
theorem B7m (a:N5):Jd (u5 a)=u5 (B7i a):=by unfold Jd B7i;simp only[B1e,Pe,Gy]
theorem A7h (a:N5):Gx (u5 a)=u5 (A1p a):=by unfold Gx A1p;simp only[B7m,B1e,Pe,Gy]
theorem F2g (a:N5):f5 (u5 a)=u5 (n5 a):=by unfold f5 n5;simp only[B7m,A7h,B1e,Pe,Gy]
theorem D4r (a:N5):f10 (u5 a)=u5 (n10 a):=by unfold f10 n10;simp only[F2g,Pe,Gy]
theorem E7c (a:N5):Rn (u5 a)=u5 (n20 a):=by unfold Rn n20;simp only[D4r,Pe,Gy]
theorem D4f (a:N5):f50 (u5 a)=u5 (n50 a):=by unfold f50 n50;simp only[D4r,E7c,Pe,Gy]
theorem D6s (a:N5):Ky (u5 a)=u5 (D1e a):=by unfold Ky D1e;simp only[D4f,Pe,Gy]
theorem B7v (a:N5):Ge (u5 a)=u5 (B8e a):=by unfold Ge B8e;simp only[D4f,D6s,Pe,Gy]
theorem C7m (a:N5):Co (u5 a)=u5 (C5j a):=by unfold Co C5j;simp only[B7v,A7h,Pe,Gy]
structure PN where
 x:N5
 y:N5
 z:N5
 t:N5
def uP (p:PN):Pn:=⟨u5 p.x,u5 p.y,u5 p.z,u5 p.t⟩
def A5d (p q:PN) (k:N5):PN:=
 let a:=Fw (Xa p.y p.x) (Xa q.y q.x)
 let b:=Fw (Rl p.y p.x) (Rl q.y q.x)
 let c:=Fw (Fw p.t k) q.t
 let d:=Fw p.z q.z
 let d2:=Rl d d
 let e:=Xa b a
 let f:=Xa d2 c
 let g:=Rl d2 c
 let h:=Rl b a
 ⟨Fw e f,Fw g h,Fw f g,Fw e h⟩
def dbN (p:PN):PN:=
 let a:=Fw p.x p.x
 let b:=Fw p.y p.y
 let c:=Fw p.z p.z
 let h:=Rl a b
 let s:=Rl p.x p.y
 let e:=Xa h (Fw s s)
 let g:=Xa a b
 let f:=Rl (Rl c c) g
 ⟨Fw e f,Fw g h,Fw f g,Fw e h⟩
theorem Yi (p q:PN) (k:N5):Ai (uP p) (uP q) (u5 k)=uP (A5d p q k):=by
 unfold Ai uP A5d;simp only[Gy,A8a,Vm]
theorem C8v (p:PN):Mg (uP p)=uP (dbN p):=by
 unfold Mg uP dbN;simp only[Gy,A8a,Vm]
theorem C8h:(([]:List UInt64)==[])=true:=rfl
def z5N (x:N5):Bool:=(w64e x.a).beq 0&&((w64e x.b).beq 0&&((w64e x.c).beq 0&&((w64e x.d).beq 0&&(w64e x.e).beq 0)))
def zPN (p:PN):Bool:=z5N p.x&&(z5N p.y&&(z5N p.z&&z5N p.t))
theorem D0r (a:Nat):(UInt64.ofNat a==0)=(w64e a).beq 0:=by
 rw[Bool.eq_iff_iff,beq_iff_eq,Nat.beq_eq,←UInt64.toNat_inj,Z1];rfl
theorem D1b (x:N5):(u5 x==K9 5)=z5N x:=by
 show ([UInt64.ofNat x.a,UInt64.ofNat x.b,UInt64.ofNat x.c,UInt64.ofNat x.d,UInt64.ofNat x.e]==[0,0,0,0,0])=_;simp only[List.cons_beq_cons,C8h,D0r,Bool.and_true];rfl
theorem F2w (p:PN):((uP p).row==K9 20)=zPN p:=by
 have e:∀(a b c d:List UInt64),a.length=5→b.length=5→c.length=5→d.length=5→(Rq a b c d==K9 20)=((a==K9 5)&&((b==K9 5)&&((c==K9 5)&&(d==K9 5)))):=by
  intro a b c d ha hb hc hd;match a,b,c,d,ha,hb,hc,hd with
  | [a0,a1,a2,a3,a4],[b0,b1,b2,b3,b4],[c0,c1,c2,c3,c4],[d0,d1,d2,d3,d4],_,_,_,_=>
   show ([a0,a1,a2,a3,a4,b0,b1,b2,b3,b4,c0,c1,c2,c3,c4,d0,d1,d2,d3,d4]==[0,0,0,0,0,0,0,0,0,0,0,0,0,0,0,0,0,0,0,0])=(([a0,a1,a2,a3,a4]==[0,0,0,0,0])&&(([b0,b1,b2,b3,b4]==[0,0,0,0,0])&&(([c0,c1,c2,c3,c4]==[0,0,0,0,0])&&([d0,d1,d2,d3,d4]==[0,0,0,0,0]))));simp only[List.cons_beq_cons,C8h,Bool.true_and,Bool.and_true,Bool.and_assoc]
 unfold Pn.row uP zPN;rw[e _ _ _ _ rfl rfl rfl rfl,D1b,D1b,D1b,D1b]
def A5f:N5:=⟨1,0,0,0,0⟩
def Ji:N5:=⟨0,0,0,0,0⟩
theorem B7y:E4 1=u5 A5f:=by decide +kernel
theorem B7c:E4 0=u5 Ji:=by decide +kernel
def A5c (x y:N5):PN:=⟨x,y,A5f,Fw x y⟩
theorem Uq (x y:N5):Aj (u5 x) (u5 y)=uP (A5c x y):=by unfold Aj uP A5c;simp only[Gy,B7y]
def Kj (p:PN):PN:=if zPN p then A5c Ji A5f else p
theorem Ob (p:PN):E3 (uP p)=uP (Kj p):=by
 unfold E3 Kj;rw[F2w];split
 ·rw[B7y,B7c,Uq]
 ·rfl
def D8q (p:PN):PN:=⟨Xa Ji (Kj p).x,(Kj p).y,(Kj p).z,Xa Ji (Kj p).t⟩
theorem D7k (p:PN):Nm (uP p)=uP (D8q p):=by
 unfold Nm D8q;rw[Ob,B7c];unfold uP;simp only[Vm]
def C6v (k:N5) (p q:PN):PN:=A5d (Kj p) (Kj q) k
theorem D8j {k:N5} (hk:M7=u5 k) (p q:PN):A7u (uP p) (uP q)=uP (C6v k p q):=by
 unfold A7u C6v;rw[Ob,Ob,hk,Yi]
def D5a (x y:N5):List UInt8:=if A3l (u5 x) then (U0 (u5 y)).set 31 (g8 (U0 (u5 y)) 31 ||| 128) else U0 (u5 y)
def A4c (p:PN):List UInt8:=D5a (Fw (Kj p).x (C5j (Kj p).z)) (Fw (Kj p).y (C5j (Kj p).z))
theorem A9m (p:PN):J8 (uP p)=A4c p:=by
 unfold J8 A4c B2w D5a;rw[Ob];unfold uP;simp only[C7m,Gy]
def C7x:Nat→PN→PN
 | 0,p=>p
 | q+1,p=>dbN (C7x q p)
theorem D7c (q:Nat) (p:PN):Ek q (uP p)=uP (C7x q p):=by
 induction q with
 | zero=>rfl
 | succ q ih=>show Mg (Ek q (uP p))=_;rw[ih,C8v];rfl
def B7n (k:N5) (p:PN):Nat→PN
 | 0=>A5c Ji A5f
 | 1=>Kj p
 | i+2=>A5d (B7n k p (i+1)) (Kj p) k
theorem Vv:E3 Ea=uP (A5c Ji A5f):=by
 have:Ea=uP ⟨Ji,Ji,Ji,Ji⟩:=rfl;rw[this,Ob];rfl
theorem B6l (k:N5) (p:PN):∀i,El (uP p) (u5 k) i=uP (B7n k p i)
 | 0=>Vv
 | 1=>Ob p
 | i+2=>by show Ai (El (uP p) (u5 k) (i+1)) (E3 (uP p)) (u5 k)=_;rw[B6l k p (i+1),Ob,Yi];rfl
def B5o (k:N5) (b:PN) (n:List UInt8) (p:PN) (m:List UInt8):Nat→PN
 | 0=>A5c Ji A5f
 | i+1=>A5d (A5d (C7x 4 (B5o k b n p m i)) (B7n k b (dg n (63-i))) k) (B7n k p (dg m (63-i))) k
theorem B8k {k:N5} {b:PN} (hk:M7=u5 k) (hb:F8=uP b) (n:List UInt8) (p:PN) (m:List UInt8):∀i,Dn n (uP p) m i=uP (B5o k b n p m i)
 | 0=>by
  show U5 (Q7 F8 M7) 0=_;rw[Zy (by decide)];exact Vv
 | i+1=>by
  show Ai (Ai (Ek 4 (Dn n (uP p) m i)) (U5 (Q7 F8 M7) (dg n (63-i))) M7) (U5 (Q7 (uP p) M7) (dg m (63-i))) M7=_;rw[Zy (B2i _ _),Zy (B2i _ _),B8k hk hb n p m i,hk,hb,B6l,B6l,D7c,Yi,Yi];rfl
def B9e (k:N5):Nat→PN→PN
 | 0,p=>p
 | q+1,p=>C6v k (B9e k q p) (B9e k q p)
theorem C3p {k:N5} (hk:M7=u5 k) (p:PN):∀q,Pf q (uP p)=uP (B9e k q p)
 | 0=>rfl
 | q+1=>by show A7u (Pf q (uP p)) (Pf q (uP p))=_;rw[C3p hk p q,D8j hk];rfl
def B4j (k:N5) (p:PN):Bool:=A4c (B9e k 3 p)==h1 1
theorem C7r {k:N5} (hk:M7=u5 k) (p:PN):Tg (uP p)=B4j k p:=by unfold Tg B4j;rw[C3p hk,A9m]
def B8v (l:List PN) (i:Nat):PN:=l.getD i ⟨Ji,Ji,Ji,Ji⟩
def Tf (k:N5) (l:List PN) (n:List UInt8) (s:Nat) (r:PN):Nat→PN
 | 0=>r
 | i+1=>if C1h n i s then A5d (Tf k l n s r i) (B8v l i) k else Tf k l n s r i
def Xf (k:N5) (l:List PN) (n:List UInt8):Nat→PN
 | 0=>A5c Ji A5f
 | m+1=>Tf k l n (7-m) (dbN (Xf k l n m)) 32
theorem Zd {k:N5} {l:List PN} (hk:M7=u5 k) (hl:∀i,i<32→Pg i=uP (B8v l i)) (n:List UInt8) (s:Nat) (r:PN):∀i,i≤32→Ed n s (uP r) i=uP (Tf k l n s r i)
 | 0,_=>rfl
 | i+1,hi=>by
  unfold Ed Tf;split
  ·rw[Zd hk hl n s r i (by omega),hl i (by omega),hk,Yi]
  ·exact Zd hk hl n s r i (by omega)
theorem B1i {k:N5} {l:List PN} (hk:M7=u5 k) (hl:∀i,i<32→Pg i=uP (B8v l i)) (n:List UInt8):∀m,Cw n m=uP (Xf k l n m)
 | 0=>Vv
 | m+1=>by
  show Ed n (7-m) (Mg (Cw n m)) 32=_;rw[B1i hk hl n m,C8v,Zd hk hl _ _ _ _ (Nat.le_refl _)];rfl
def rWN (u v:N5):N5:=Fw u (C5j v)
def C6t (u v:N5):N5:=Fw (A1a 2 (B8e (rWN u v))) (sqN (rWN u v))
def B8y (x w:N5):Bool:=U0 (u5 (Fw x x))==U0 (u5 w)
def C6m:N5:=⟨1718705420411056,234908883556509,2233514472574048,2117202627021982,765476049583133⟩
theorem D1q:Hb=u5 C6m:=rfl
def D0l (u v:N5):N5:=if B8y (C6t u v) (rWN u v) then C6t u v else Fw (C6t u v) C6m
def C7p (x:N5):N5:=if A3l (u5 x) then Xa Ji x else x
def rBN (u v:N5):Bool:=!(U0 (u5 v)==z8 32)&&B8y (D0l u v) (rWN u v)
def rLN (u v:N5):N5:=if rBN u v then C7p (D0l u v) else Ji
theorem A7v (u v:N5):Cx (u5 u) (u5 v)=u5 (rWN u v):=by unfold Cx rWN;simp only[C7m,Gy]
theorem C5i (u v:N5):Du (u5 u) (u5 v)=u5 (C6t u v):=by unfold Du C6t;simp only[A7v,B7v,Pe,B1e,Gy]
theorem C4o (x w:N5):B4x (u5 x) (u5 w)=B8y x w:=by unfold B4x B8y;rw[Gy]
theorem B1l (u v:N5):Oc (u5 u) (u5 v)=u5 (D0l u v):=by
 unfold Oc D0l;rw[C5i,A7v,C4o,D1q,Gy];split<;>rfl
theorem D9d (x:N5):A7o (u5 x)=u5 (C7p x):=by
 unfold A7o C7p;have:K9 5=u5 Ji:=rfl;rw[this,Vm];split<;>rfl
theorem B7j (u v:N5):Fy (u5 u) (u5 v)=rBN u v:=by unfold Fy rBN;rw[B1l,A7v,C4o]
theorem D2y (u v:N5):Bm (u5 u) (u5 v)=u5 (rLN u v):=by
 unfold Bm rLN;rw[B7j,B1l,D9d];split<;>rfl
def C4j (kd y:N5):N5:=rLN (Xa (Fw y y) A5f) (Rl (Fw (Fw y y) kd) A5f)
def B9f (kd y:N5):Bool:=rBN (Xa (Fw y y) A5f) (Rl (Fw (Fw y y) kd) A5f)
theorem D8l {b:List UInt8} {kd y:N5} (hd:Ib=u5 kd) (hy:Zw b=u5 y):Yw b=u5 (C4j kd y):=by
 unfold Yw C4j B1b B0o;rw[hy,hd,B7y];simp only[Gy,Vm,A8a,D2y]
theorem D2d {b:List UInt8} {kd y:N5} (hd:Ib=u5 kd) (hy:Zw b=u5 y):Fy (B1b b) (B0o b)=B9f kd y:=by
 unfold B9f B1b B0o;rw[hy,hd,B7y];simp only[Gy,Vm,A8a,B7j]
theorem D1z {b:List UInt8} {kd y x:N5} (hd:Ib=u5 kd) (hy:Zw b=u5 y) (hx:Yw b=u5 x) (h1:Ow (H7 b)=true) (h2:B9f kd y=true) (h3:(Nz b&&U0 (u5 x)==z8 32)=false):Kd b=true:=by
 unfold Kd;rw[D2d hd hy,h1,h2,hx,h3];rfl
theorem D7l {b:List UInt8} {y x:N5} (ho:Kd b=true) (hy:Zw b=u5 y) (hx:Yw b=u5 x):Fr b=uP (A5c (if Nz b then Xa Ji x else x) y):=by
 unfold Fr;rw[if_pos ho,hx,hy,B7c,Vm];split<;>exact Uq _ _
section
def eq5 (x y:N5):Bool:=Nat.beq x.a y.a&&(Nat.beq x.b y.b&&(Nat.beq x.c y.c&&(Nat.beq x.d y.d&&Nat.beq x.e y.e)))
theorem Zv {x y:N5} (h:eq5 x y=true):x=y:=by
 obtain⟨a,b,c,d,e⟩:=x;obtain⟨a',b',c',d',e'⟩:=y;simp only[eq5,Bool.and_eq_true,Nat.beq_eq]at h;obtain⟨rfl,rfl,rfl,rfl,rfl⟩:=h;rfl
def eqP (p q:PN):Bool:=eq5 p.x q.x&&(eq5 p.y q.y&&(eq5 p.z q.z&&eq5 p.t q.t))
theorem B7b {p q:PN} (h:eqP p q=true):p=q:=by
 obtain⟨a,b,c,d⟩:=p;obtain⟨a',b',c',d'⟩:=q;simp only[eqP,Bool.and_eq_true]at h;rw[Zv h.1,Zv h.2.1,Zv h.2.2.1,Zv h.2.2.2]
set_option maxRecDepth 100000
set_option maxHeartbeats 0
def D6g:N5:=⟨929955233495203,466365720129213,1662059464998953,2033849074728123,1442794654840575⟩
def A5t:N5:=⟨1859910466990425,932731440258426,1072319116312658,1815898335770999,633789495995903⟩
def A3m:PN:=⟨⟨1738742601995546,1146398526822698,2070867633025821,562264141797630,587772402128613⟩,⟨1801439850948184,1351079888211148,450359962737049,900719925474099,1801439850948198⟩,⟨1,0,0,0,0⟩,⟨1841354044333475,16398895984059,755974180946558,900171276175154,1821297809914039⟩⟩
theorem D4m:Ib=u5 D6g:=by decide +kernel
theorem B6u:M7=u5 A5t:=by decide +kernel
theorem D1m:C6 Mb=u5 A3m.x:=by decide +kernel
theorem D3u:C6 Ma=u5 A3m.y:=by decide +kernel
theorem D3v:eq5 (Fw A3m.x A3m.y) A3m.t=true:=by decide +kernel
theorem D7j:F8=uP A3m:=by
 show Aj (C6 Mb) (C6 Ma)=_;rw[D1m,D3u,Uq];unfold A5c;rw[Zv D3v];rfl
def B2k (row:List UInt8) (k:Nat):UInt8:=Va (g8 row (2*k)) <<< 4 ||| Va (g8 row (2*k+1))
theorem B7r (l:List UInt8) (n j:Nat):g8 (l.drop n) j=g8 l (n+j):=by
 unfold g8;rw[List.getD_eq_getElem?_getD,List.getD_eq_getElem?_getD,List.getElem?_drop]
theorem C2u (i:Nat):B9a i=Mj (B2k (Ac.drop (128*i))) 64 64:=by
 unfold B9a;have:Ft i=B2k (Ac.drop (128*i)):=by
  funext k;unfold Ft B2k;rw[B7r,B7r];rfl
 rw[this]
noncomputable def Bo (i:Nat) (p:PN):Bool:=C6 (I7 (Mj (B2k (Ac.drop (128*i))) 64 64) 0)==u5 p.x&&(C6 (I7 (Mj (B2k (Ac.drop (128*i))) 64 64) 32)==u5 p.y&&eqP (A5c p.x p.y) p)
theorem Al {i:Nat} {p:PN} (h:Bo i p=true):Pg i=uP p:=by
 unfold Bo at h;simp only[Bool.and_eq_true,beq_iff_eq]at h;unfold Pg;rw[C2u,h.1,h.2.1,Uq,B7b h.2.2]
def kL0:PN:=⟨⟨1738742601995546,1146398526822698,2070867633025821,562264141797630,587772402128613⟩,⟨1801439850948184,1351079888211148,450359962737049,900719925474099,1801439850948198⟩,⟨1,0,0,0,0⟩,⟨1841354044333475,16398895984059,755974180946558,900171276175154,1821297809914039⟩⟩
def kL1:PN:=⟨⟨207657587877206,2100806663644183,634766761317859,1794349103177875,1662326270124510⟩,⟨1161296182310599,941340786753986,2054541528034550,348227273872704,269755449941776⟩,⟨1,0,0,0,0⟩,⟨956558613127806,218246011415390,1471725144979126,911638385797892,1757616091032277⟩⟩
def kL2:PN:=⟨⟨1521219502450021,1846410879841235,34313878798212,10546997869797,1652014780966119⟩,⟨1658952464264246,301281990073328,1421351965663984,1976190811556149,784992082977218⟩,⟨1,0,0,0,0⟩,⟨892904545274529,1276862129681126,2227823945098524,1198975692454157,531459573462592⟩⟩
def kL3:PN:=⟨⟨227770048461431,487879623988285,1417664382069336,21120743092234,192648498818915⟩,⟨489485269993669,31434140373030,662742595234372,520860463613287,581679651492685⟩,⟨1,0,0,0,0⟩,⟨440709916510127,606245067725176,575712091139983,1665763122282094,1396451099334619⟩⟩
def kL4:PN:=⟨⟨2137057258114235,578737412616802,222102366986352,1234677837468596,1356664587499029⟩,⟨1722913527544090,2088871461428873,1128366041178413,803942221589082,1922039712175331⟩,⟨1,0,0,0,0⟩,⟨643056839880049,523898651151534,204380683349760,1233102105443002,2156664000083962⟩⟩
def kL5:PN:=⟨⟨1285304317579493,539645416220191,1912192162872302,1488507247591807,271320221614130⟩,⟨78734827152218,1357852017365999,290905538263157,908753962904692,1078524239176568⟩,⟨1,0,0,0,0⟩,⟨1377163577851704,1450974270990480,1438768082383222,73739011122910,715982777037845⟩⟩
def kL6:PN:=⟨⟨2139631458254162,114745178815772,1087650998417340,1304905119131584,1454119089317820⟩,⟨1848586308489622,611786136704735,745684036015187,324537442443163,1422099643653513⟩,⟨1,0,0,0,0⟩,⟨289958792114194,1718243155014068,618410686050882,2148570867678717,2200768563603231⟩⟩
def kL7:PN:=⟨⟨54901458865636,727536360848802,1177631862964415,1689752924059193,2003135700883297⟩,⟨373003406320657,975674768844653,407736244583094,1999031378370391,1009852647415928⟩,⟨1,0,0,0,0⟩,⟨1775725816775503,1049202381591688,1875336355828115,1273325138276258,1490320459503170⟩⟩
def kL8:PN:=⟨⟨962690963841538,2210719638316993,706068330177389,1384191282407386,1726421572252383⟩,⟨1964103625364243,307116021699043,120882883216088,20816463754899,55369446368493⟩,⟨1,0,0,0,0⟩,⟨1568907369646169,514127314339263,40774287502072,1976251032040224,1733588893334842⟩⟩
def kL9:PN:=⟨⟨1071545802964639,1907633890512027,1590806793797968,801793450737153,552650580738272⟩,⟨147714283167257,991334929770036,740594144646985,1359930762689594,2104011130007174⟩,⟨1,0,0,0,0⟩,⟨1753093361894213,1521233125158248,1386128832987038,1088053247760158,193516695534830⟩⟩
def E3x:PN:=⟨⟨513161589821684,135189712591322,268115112334192,732346932090735,1698600094179178⟩,⟨1926627679356154,546033803356952,1665378458738264,1140574075214145,1041362083641741⟩,⟨1,0,0,0,0⟩,⟨1353416909210792,1517015454331480,809582929435518,2005509998263633,1154861397913715⟩⟩
def E5x:PN:=⟨⟨1739414694272229,1521928877555375,1503334770669637,763386956585108,1862129073046365⟩,⟨1268802689912462,967753215362474,632928647924378,938581088869778,1093383925776355⟩,⟨1,0,0,0,0⟩,⟨1439619040869311,122358970891288,2003741039041763,1571825034906733,1553939020907850⟩⟩
def E5p:PN:=⟨⟨1228065289500112,1995656439401154,747490468072570,1771782479153808,1441803220130225⟩,⟨1133256506751681,1971401122869232,364740748818945,274858525947676,944245750712036⟩,⟨1,0,0,0,0⟩,⟨969799468763409,758675615912443,164497183604933,410658007103705,1365606147138959⟩⟩
def E4p:PN:=⟨⟨2050219849394447,2136640035013897,682111103158185,1698971002258475,442296111034018⟩,⟨558048773939678,897533695604502,1035891336244684,1945051063646027,220875155027932⟩,⟨1,0,0,0,0⟩,⟨136528770899845,637133720221738,1127633800314291,1677182430025837,1482130520813037⟩⟩
def E5b:PN:=⟨⟨513905658590587,680817969573829,1150970882872061,354648524841429,1182660725187364⟩,⟨1687245214141198,1499423053851412,1198492387236350,1278757245406394,1918084130941870⟩,⟨1,0,0,0,0⟩,⟨13131300766877,2018180793845027,437449436518264,116732650814892,1368575053372683⟩⟩
def E7b:PN:=⟨⟨124475054908452,1906983202879951,611701698187204,1873527664260246,1365903236220276⟩,⟨1978406422605413,1915091176750658,961916202316503,396934785157585,866421071701821⟩,⟨1,0,0,0,0⟩,⟨417773349695347,1654602006188621,985389090556103,1189633363629426,288170139646185⟩⟩
def E7e:PN:=⟨⟨78814272546852,343446598238096,1469662686845463,446722075312752,1339733442806879⟩,⟨770831939905131,1066752177064823,855905013023480,1194941381303059,1674322643330780⟩,⟨1,0,0,0,0⟩,⟨2025065385374602,84441031851324,1769310306558354,26295680040963,99051874860870⟩⟩
def E3i:PN:=⟨⟨2248752024183766,708723593180029,1256489519620460,1977762733290583,2173540277402287⟩,⟨356808580336773,889637948668713,2118215992267087,2196570670553569,497367236949540⟩,⟨1,0,0,0,0⟩,⟨637585733359542,1435081831225848,1456442193699608,1717437606507251,1447466321451996⟩⟩
def E3j:PN:=⟨⟨2102370904129425,9421038388327,922877803622304,1730456536722459,762334075187381⟩,⟨427580487847279,1800861300174619,848721725908694,1905002686634420,2174839152969707⟩,⟨1,0,0,0,0⟩,⟨268052600032300,1676250763249512,1344774212489870,1877856504985088,1551852259475401⟩⟩
def E2x:PN:=⟨⟨73949236156954,243328099540869,285103069684975,535059367582198,507523117579041⟩,⟨81762443123683,437772300968419,104708665526234,1600664443758511,2153009907310332⟩,⟨1,0,0,0,0⟩,⟨525185820960592,2109162826897277,1727597431782170,94579111876036,1943291465670801⟩⟩
def E7m:PN:=⟨⟨1007523394043953,877179782120715,750791257494571,1684193508924439,1481971162173362⟩,⟨892412035198752,724888969399762,189791939055799,650037373814668,58891993572333⟩,⟨1,0,0,0,0⟩,⟨2012424166711840,1051009010171064,985378134251402,340978745693086,76576796701879⟩⟩
def E4a:PN:=⟨⟨1221600705668234,422433434344282,1165451223563677,146148415932141,2233882774218833⟩,⟨27130515852506,1042767501773405,1627152082831711,2158630032433998,279351529642523⟩,⟨1,0,0,0,0⟩,⟨399543236321792,304278115101828,1696822803913734,1638181959782862,1187398200262185⟩⟩
def E2v:PN:=⟨⟨1707106071538538,1034947591101305,1883622717070250,2247368448221425,79795392053140⟩,⟨1911252298510640,413658976450780,1847058117559766,170234544819720,1035923066070357⟩,⟨1,0,0,0,0⟩,⟨1620168465800920,853903694194838,1629795986498023,449057437180843,773788728556441⟩⟩
def E2w:PN:=⟨⟨705317732516645,1259080967901750,110596001674658,152606910492821,257476921021274⟩,⟨2000400530866971,1099125665712498,1961944974262476,155981950177417,1046917659734111⟩,⟨1,0,0,0,0⟩,⟨730820343861142,1746061691430809,1882659248310344,918803715970310,1070778979244388⟩⟩
def E6h:PN:=⟨⟨798540852548237,1186388878089071,554557418141563,2038592377592718,488711206961541⟩,⟨833812069173299,646939731425630,1538221673810424,2137163637965756,1721356815521377⟩,⟨1,0,0,0,0⟩,⟨76009751102151,1911895294413367,1262509771121608,1445197895593765,460973337299855⟩⟩
def E3g:PN:=⟨⟨54500732029931,1229228649591394,1395999898189729,1718070411837384,1664301080442019⟩,⟨1903443165125547,559438718436641,993492825524625,534768921454925,1413903496556256⟩,⟨1,0,0,0,0⟩,⟨120803451939400,1228462511466555,1825422928562560,2073882328972608,1338393801812170⟩⟩
def E5m:PN:=⟨⟨2009719025433307,1338026402858380,368645885213984,1305913578656784,900000752165226⟩,⟨901384702181433,618421315369192,1461922630708682,1786955284772872,769606372041141⟩,⟨1,0,0,0,0⟩,⟨2237692444171697,2144656409190513,1435531634016049,1875943125805625,1458226165828182⟩⟩
def E5t:PN:=⟨⟨1290284552533580,149109026735730,152217355613238,1936628254954832,289514889573986⟩,⟨545116827004962,24791008572662,666030275103494,2077271970883202,731991509874304⟩,⟨1,0,0,0,0⟩,⟨682751199693311,2090280524683502,1447319815966402,753208601256438,2019644203483639⟩⟩
def E2y:PN:=⟨⟨66253276699711,1252511340070009,2001984381343139,1811095600397663,2073215811985677⟩,⟨1623460295322413,1593143032869612,1227910477134078,174031738331835,1854653122047196⟩,⟨1,0,0,0,0⟩,⟨378835871973892,862775089586864,2213372231758376,1367038889672674,1837642890635372⟩⟩
def E4f:PN:=⟨⟨855109427260935,1192666648398113,1070509169023896,49743400943463,2059455722217761⟩,⟨1868326402194645,1731588568080711,734486077860206,1792565842527341,1694206596449169⟩,⟨1,0,0,0,0⟩,⟨1030568103689263,1717414762294505,1289812983312952,428593515366431,1052052483814347⟩⟩
def E3a:PN:=⟨⟨1078783740036999,198946038155516,1242334275692922,1915693194367353,716690677826317⟩,⟨1158255922756604,2050076295205690,816279270940781,485560714163174,1498485971338264⟩,⟨1,0,0,0,0⟩,⟨949271686208484,1835219553732856,1146775173265892,2161931743141499,1913301798815708⟩⟩
def E4k:PN:=⟨⟨302555565364767,1820588068919652,772267205884354,1865066538047563,1551475371085944⟩,⟨1996585736328222,70826822300604,211627457424574,562895043924503,1826585557779011⟩,⟨1,0,0,0,0⟩,⟨338531462563851,1655232836796258,315301918780359,145172540828775,2195524900867729⟩⟩
theorem F2u:Bo 0 kL0=true:=by decide +kernel
theorem F1z:Bo 1 kL1=true:=by decide +kernel
theorem F1r:Bo 2 kL2=true:=by decide +kernel
theorem F2l:Bo 3 kL3=true:=by decide +kernel
theorem F2r:Bo 4 kL4=true:=by decide +kernel
theorem F1c:Bo 5 kL5=true:=by decide +kernel
theorem F1s:Bo 6 kL6=true:=by decide +kernel
theorem F0v:Bo 7 kL7=true:=by decide +kernel
theorem F2y:Bo 8 kL8=true:=by decide +kernel
theorem F1o:Bo 9 kL9=true:=by decide +kernel
theorem E5h:Bo 10 E3x=true:=by decide +kernel
theorem E1y:Bo 11 E5x=true:=by decide +kernel
theorem E1r:Bo 12 E5p=true:=by decide +kernel
theorem E3z:Bo 13 E4p=true:=by decide +kernel
theorem E4m:Bo 14 E5b=true:=by decide +kernel
theorem E4y:Bo 15 E7b=true:=by decide +kernel
theorem E4l:Bo 16 E7e=true:=by decide +kernel
theorem E2d:Bo 17 E3i=true:=by decide +kernel
theorem E2b:Bo 18 E3j=true:=by decide +kernel
theorem E5r:Bo 19 E2x=true:=by decide +kernel
theorem E4u:Bo 20 E7m=true:=by decide +kernel
theorem E4d:Bo 21 E4a=true:=by decide +kernel
theorem E7w:Bo 22 E2v=true:=by decide +kernel
theorem E5g:Bo 23 E2w=true:=by decide +kernel
theorem E5u:Bo 24 E6h=true:=by decide +kernel
theorem E2j:Bo 25 E3g=true:=by decide +kernel
theorem E5k:Bo 26 E5m=true:=by decide +kernel
theorem E7q:Bo 27 E5t=true:=by decide +kernel
theorem E1t:Bo 28 E2y=true:=by decide +kernel
theorem E7j:Bo 29 E4f=true:=by decide +kernel
theorem E6r:Bo 30 E3a=true:=by decide +kernel
theorem E7h:Bo 31 E4k=true:=by decide +kernel
def D2h:List PN:=[kL0,kL1,kL2,kL3,kL4,kL5,kL6,kL7,kL8,kL9,E3x,E5x,E5p,E4p,E5b,E7b,E7e,E3i,E3j,E2x,E7m,E4a,E2v,E2w,E6h,E3g,E5m,E5t,E2y,E4f,E3a,E4k]
theorem E2n:∀i,i<32→Pg i=uP (B8v D2h i):=by
 intro i hi;match i,hi with
 | 0,_=>exact Al F2u
 | 1,_=>exact Al F1z
 | 2,_=>exact Al F1r
 | 3,_=>exact Al F2l
 | 4,_=>exact Al F2r
 | 5,_=>exact Al F1c
 | 6,_=>exact Al F1s
 | 7,_=>exact Al F0v
 | 8,_=>exact Al F2y
 | 9,_=>exact Al F1o
 | 10,_=>exact Al E5h
 | 11,_=>exact Al E1y
 | 12,_=>exact Al E1r
 | 13,_=>exact Al E3z
 | 14,_=>exact Al E4m
 | 15,_=>exact Al E4y
 | 16,_=>exact Al E4l
 | 17,_=>exact Al E2d
 | 18,_=>exact Al E2b
 | 19,_=>exact Al E5r
 | 20,_=>exact Al E4u
 | 21,_=>exact Al E4d
 | 22,_=>exact Al E7w
 | 23,_=>exact Al E5g
 | 24,_=>exact Al E5u
 | 25,_=>exact Al E2j
 | 26,_=>exact Al E5k
 | 27,_=>exact Al E7q
 | 28,_=>exact Al E1t
 | 29,_=>exact Al E7j
 | 30,_=>exact Al E6r
 | 31,_=>exact Al E7h
 | n+32,h=>exact absurd h (by omega)
theorem B2r {n:List UInt8} {q:PN} {b:List UInt8} (h:Xf A5t D2h n 8=q) (e:(A4c q==b)=true):J8 (N6 F8 n)=b:=by
 have h1:N6 F8 n=Tn n:=B3a n (beq_self_eq_true _);rw[h1];show J8 (Cw n 8)=b;rw[B1i B6u E2n,h,A9m];exact eq_of_beq e
end
structure Ev where
 A:List UInt8
 S:List UInt8
 B:List UInt8
 M:List UInt8
 F:List UInt8
 RB:List UInt8
 KB:List UInt8
 SB:List UInt8
 R:List UInt64
 K:List UInt64
 Y:N5
 X:N5
 P:PN
 Q:PN
noncomputable def Ev.c1 (e:Ev) (sd ky:List UInt8):Bool:=Q0 sd==e.A&&(P7 sd==e.S&&(Da 1 (Cg 1 ky)==e.M&&(M1 [e.S,e.M]==e.R&&(J7 e.R==e.RB&&M1 [e.F,e.B,e.M]==e.K))))
noncomputable def Ev.c2 (e:Ev):Bool:=A4c (Xf A5t D2h e.A 8)==e.B
noncomputable def Ev.c3 (e:Ev):Bool:=A4c (Xf A5t D2h e.RB 8)==e.F
noncomputable def Ev.c4 (e:Ev):Bool:=J7 (Je e.R (Hk e.K (U2 e.A)))==e.SB&&(Gn (Gn (z8 64) 0 e.F) 32 e.SB==e.F++e.SB&&(Zw e.B==u5 e.Y&&(eq5 (C4j D6g e.Y) e.X&&(Ow (H7 e.B)&&(B9f D6g e.Y&&(!(Nz e.B&&U0 (u5 e.X)==z8 32)&&(eqP (A5c (if Nz e.B then Xa Ji e.X else e.X) e.Y) e.P && !B4j A5t e.P)))))))
noncomputable def Ev.c5 (e:Ev):Bool:=eqP (D8q e.P) e.Q&&(I7 (e.F++e.SB) 0==e.F&&(I7 (e.F++e.SB) 32==e.SB&&(Tp e.SB&&(J7 (Fh e.SB)==e.SB&&J7 e.K==e.KB))))
noncomputable def Ev.c6 (e:Ev):Bool:=A4c (B5o A5t A3m e.SB e.Q e.KB 64)==e.F
theorem Ev.upd {e:Ev} {sd ky:List UInt8} (h1:e.c1 sd ky=true) (h2:e.c2=true) (h3:e.c3=true) (h4:e.c4=true) (h5:e.c5=true) (h6:e.c6=true) :
 mkU sd 1 ky=⟨e.B,1,ky,e.F++e.SB⟩∧signedB (mkU sd 1 ky)=true:=by
 simp only[Ev.c1,Ev.c2,Ev.c3,Ev.c4,Ev.c5,Ev.c6,Bool.and_eq_true,beq_iff_eq,Bool.not_eq_true']at h1 h2 h3 h4 h5 h6;obtain⟨a1,a2,a3,a4,a5,a6⟩:=h1;obtain⟨b1,b2,b3,b4,b5,b6,b7,b8,b9⟩:=h4;obtain⟨d1,d2,d3,d4,d5,d6⟩:=h5;have aB:Eh sd=e.B:=by unfold Eh;rw[a1];exact B2r rfl (by rw[h2];exact beq_self_eq_true _)
 have r:sgR sd [e.M]=e.R:=by unfold sgR;rw[a2,a4]
 have f:sgF sd [e.M]=e.F:=by unfold sgF;rw[r,a5];exact B2r rfl (by rw[h3];exact beq_self_eq_true _)
 have k:sgK sd [e.M]=e.K:=by unfold sgK;rw[f,aB,a6]
 have s:sgS sd [e.M]=e.SB:=by unfold sgS;rw[r,k,a1,b1]
 have sg:Sk sd [e.M]=e.F++e.SB:=by unfold Sk;rw[f,s,b2]
 have upd:mkU sd 1 ky=⟨e.B,1,ky,e.F++e.SB⟩:=by unfold mkU Kt;rw[aB,a3,sg]
 have x:Yw e.B=u5 e.X:=by rw[D8l D4m b3,Zv b4]
 have ok:=D1z D4m b3 x b5 b6 b7;have p:Fr e.B=uP e.P:=by rw[D7l ok b3 x,B7b b8]
 have aA:Tg (Fr e.B)=false:=by rw[p,C7r B6u];exact b9
 have vf:vfH e.B (e.F++e.SB) [e.M]=e.F:=by unfold vfH vfK;rw[d2,d3,a6,d5,d6,p,D7k,B7b d1];show J8 (Dn e.SB (uP e.Q) e.KB 64)=e.F;rw[B8k B6u D7j,A9m];exact h6
 refine ⟨upd,?_⟩;rw[upd,A3e rfl rfl];show Jo e.B 1 (Cg 1 ky) (e.F++e.SB)=true;unfold Jo;rw[a3];unfold Gf;rw[ok,aA,d3,d4,vf,d2];simp
section
set_option maxRecDepth 100000
set_option maxHeartbeats 0
def eu9:Ev:=⟨[200,12,38,94,204,130,221,140,238,110,86,206,68,228,93,175,215,160,197,117,13,249,20,178,83,161,251,122,138,246,109,91],[153,118,54,7,240,168,93,11,212,54,105,25,74,58,64,87,122,82,138,243,149,244,241,126,6,241,222,252,198,222,178,165],[206,204,21,7,220,29,221,114,149,149,28,41,8,136,240,149,173,185,4,77,27,115,214,150,230,223,6,93,104,59,212,252],[119,105,116,97,110,1,0,0,0,0,0,0,0,40,0,0,0,0,0,0,0,1,2,0,0,0,0,0,0,0,0,0,0,0,0,0,0,0,0,0,0,0,0,0,0,0,0,0,0,0,0,0,0,0],[64,101,153,252,184,252,127,12,178,104,81,213,210,93,225,110,129,25,57,11,233,232,78,111,238,98,161,158,158,160,9,221],[167,252,29,139,182,217,45,132,98,137,196,27,99,180,115,68,110,202,10,208,71,8,74,92,133,143,5,193,177,247,82,15],[214,238,226,20,71,240,237,40,73,55,30,53,211,205,43,118,196,138,196,95,192,113,100,57,43,128,41,30,173,73,71,15],[32,243,253,161,234,217,59,155,58,20,160,32,162,85,10,218,5,180,99,46,43,65,14,16,108,211,123,246,150,20,197,13],[9524508164999740583,4932484354661452130,6650136904292026990,1104217201478832005],[2949277519081303766,8515125827487020873,4135555428887333572,1100929641799581739],⟨1440205732433102,287125319888475,1146682017825312,2237830084005286,2196015545700461⟩,⟨626536395482458,295576395633887,1336003373205109,698547845527882,1208567494868599⟩,⟨⟨1625263418202771,1956223418051360,915796440480138,1553251968157365,1043232318816648⟩,⟨1440205732433102,287125319888475,1146682017825312,2237830084005286,2196015545700461⟩,⟨1,0,0,0,0⟩,⟨243950350799911,1923543989867015,1055101283805844,742455266160301,82920972177670⟩⟩,⟨⟨626536395482458,295576395633887,1336003373205109,698547845527882,1208567494868599⟩,⟨1440205732433102,287125319888475,1146682017825312,2237830084005286,2196015545700461⟩,⟨1,0,0,0,0⟩,⟨2007849462885318,328255823818232,1196698529879403,1509344547524946,2168878841507577⟩⟩⟩
theorem E7r:mkU (h1 1) 1 (h1 2)=⟨eu9.B,1,h1 2,eu9.F++eu9.SB⟩∧signedB (mkU (h1 1) 1 (h1 2))=true:=Ev.upd (by decide +kernel) (by decide +kernel) (by decide +kernel) (by decide +kernel) (by decide +kernel) (by decide +kernel)
end
end Go.Proofs.YtlegpkdighoflaaGreat
