/- A part of the proof of DirAnswers. -/
import Derived.Test.YtlegpkdighoflaaGreatPbc
set_option linter.unusedVariables false
set_option linter.unusedSimpArgs false
set_option maxRecDepth 100000
set_option maxHeartbeats 40000000
namespace Go.Proofs.YtlegpkdighoflaaGreat
open Go Go.RowKit Sh
structure N5 where
 a:Nat
 b:Nat
 c:Nat
 d:Nat
 e:Nat
def u5 (x:N5):List UInt64:=[UInt64.ofNat x.a,UInt64.ofNat x.b,UInt64.ofNat x.c,UInt64.ofNat x.d,UInt64.ofNat x.e]
@[simp] theorem D6e (x : N5) : (u5 x).length = 5 := rfl
def C9v (x0 x1 x2 x3 x4:Nat):N5:=
 ⟨Nat.add (Nat.mod x0 2251799813685248) (Nat.mul 19 (Nat.div (Nat.mod x4 18446744073709551616) 2251799813685248)),
  Nat.add (Nat.mod x1 2251799813685248) (Nat.div (Nat.mod x0 18446744073709551616) 2251799813685248),
  Nat.add (Nat.mod x2 2251799813685248) (Nat.div (Nat.mod x1 18446744073709551616) 2251799813685248),
  Nat.add (Nat.mod x3 2251799813685248) (Nat.div (Nat.mod x2 18446744073709551616) 2251799813685248),
  Nat.add (Nat.mod x4 2251799813685248) (Nat.div (Nat.mod x3 18446744073709551616) 2251799813685248)⟩
def D4c (t0 t1 t2 t3 t4:Nat):N5:=
 C9v (Nat.add (Nat.mod t0 2251799813685248) (Nat.mul 19 (Nat.div t4 2251799813685248)))
  (Nat.add (Nat.mod t1 2251799813685248) (Nat.div t0 2251799813685248))
  (Nat.add (Nat.mod t2 2251799813685248) (Nat.div t1 2251799813685248))
  (Nat.add (Nat.mod t3 2251799813685248) (Nat.div t2 2251799813685248))
  (Nat.add (Nat.mod t4 2251799813685248) (Nat.div t3 2251799813685248))
def C3u (a b c d e:Nat):Nat:=Nat.add (Nat.add (Nat.add (Nat.add a b) c) d) e
def Gc (x:Nat):Nat:=Nat.mod x 18446744073709551616
def E1q (a0 a1 a2 a3 a4 b0 b1 b2 b3 b4 n1 n2 n3 n4:Nat):N5:=
 D4c (C3u (Nat.mul a0 b0) (Nat.mul n1 b4) (Nat.mul n2 b3) (Nat.mul n3 b2) (Nat.mul n4 b1))
  (C3u (Nat.mul a0 b1) (Nat.mul a1 b0) (Nat.mul n2 b4) (Nat.mul n3 b3) (Nat.mul n4 b2))
  (C3u (Nat.mul a0 b2) (Nat.mul a1 b1) (Nat.mul a2 b0) (Nat.mul n3 b4) (Nat.mul n4 b3))
  (C3u (Nat.mul a0 b3) (Nat.mul a1 b2) (Nat.mul a2 b1) (Nat.mul a3 b0) (Nat.mul n4 b4))
  (C3u (Nat.mul a0 b4) (Nat.mul a1 b3) (Nat.mul a2 b2) (Nat.mul a3 b1) (Nat.mul a4 b0))
def Em (x y:N5):N5:=
 E1q (Gc x.a) (Gc x.b) (Gc x.c) (Gc x.d) (Gc x.e) (Gc y.a) (Gc y.b) (Gc y.c) (Gc y.d) (Gc y.e)
  (Gc (Nat.mul 19 x.b)) (Gc (Nat.mul 19 x.c)) (Gc (Nat.mul 19 x.d)) (Gc (Nat.mul 19 x.e))
def sqG (a0 a1 a2 a3 a4 d0 d1 d2 d3 n3 n4:Nat):N5:=
 D4c (Nat.add (Nat.add (Nat.mul a0 a0) (Nat.mul d1 n4)) (Nat.mul d2 n3))
  (Nat.add (Nat.add (Nat.mul d0 a1) (Nat.mul d2 n4)) (Nat.mul a3 n3))
  (Nat.add (Nat.add (Nat.mul d0 a2) (Nat.mul a1 a1)) (Nat.mul d3 n4))
  (Nat.add (Nat.add (Nat.mul d0 a3) (Nat.mul d1 a2)) (Nat.mul a4 n4))
  (Nat.add (Nat.add (Nat.mul d0 a4) (Nat.mul d1 a3)) (Nat.mul a2 a2))
def sqN (x:N5):N5:=
 sqG (Gc x.a) (Gc x.b) (Gc x.c) (Gc x.d) (Gc x.e) (Gc (Nat.mul 2 x.a)) (Gc (Nat.mul 2 x.b)) (Gc (Nat.mul 2 x.c)) (Gc (Nat.mul 2 x.d)) (Gc (Nat.mul 19 x.d)) (Gc (Nat.mul 19 x.e))
def Pm (x y:N5):N5:=C9v (Nat.add x.a y.a) (Nat.add x.b y.b) (Nat.add x.c y.c) (Nat.add x.d y.d) (Nat.add x.e y.e)
def Uq (x y:N5):N5:=
 C9v (Nat.add x.a (Nat.sub 18455751272964292532 (Gc y.a))) (Nat.add x.b (Nat.sub 18455751272964292604 (Gc y.b))) (Nat.add x.c (Nat.sub 18455751272964292604 (Gc y.c))) (Nat.add x.d (Nat.sub 18455751272964292604 (Gc y.d))) (Nat.add x.e (Nat.sub 18455751272964292604 (Gc y.e)))
def Yu:Nat→N5→N5
 | 0,a=>a
 | q+1,a=>sqN (Yu q a)
def d2 (n:Nat):List UInt64:=[UInt64.ofNat (n / 18446744073709551616),UInt64.ofNat n]
theorem U3 (n:Nat):(UInt64.ofNat n).toNat=n % 18446744073709551616:=UInt64.toNat_ofNat' ..
theorem Ug (a b:Nat):UInt64.ofNat a+UInt64.ofNat b=UInt64.ofNat (a+b):=by
 apply UInt64.toNat_inj.1;rw[UInt64.toNat_add,U3,U3,U3];omega
theorem A5h (a b:Nat):UInt64.ofNat a*UInt64.ofNat b=UInt64.ofNat (a*b):=by
 apply UInt64.toNat_inj.1;rw[UInt64.toNat_mul,U3,U3,U3];exact (Nat.mul_mod _ _ _).symm
theorem Z3 (a:Nat):UInt64.ofNat (Gc a)=UInt64.ofNat a:=by
 apply UInt64.toNat_inj.1;rw[U3,U3];show a % 18446744073709551616 % 18446744073709551616=_;omega
theorem C4f (a:Nat):UInt64.ofNat a &&& (2251799813685247:UInt64)=UInt64.ofNat (a % 2251799813685248):=by
 apply UInt64.toNat_inj.1;rw[UInt64.toNat_and,U3,U3];rw[show (2251799813685247:UInt64).toNat=2 ^ 51-1 from rfl,Nat.and_two_pow_sub_one_eq_mod];omega
theorem D5d (a:Nat):UInt64.ofNat a >>> (51:UInt64)=UInt64.ofNat (a % 18446744073709551616 / 2251799813685248):=by
 apply UInt64.toNat_inj.1;rw[UInt64.toNat_shiftRight,U3,U3,show (51:UInt64).toNat % 64=51 from rfl,Nat.shiftRight_eq_div_pow];omega
theorem B5w (x y:Nat) (hx:x<18446744073709551616) (hy:y<18446744073709551616):Bc (UInt64.ofNat x) (UInt64.ofNat y)=d2 (x*y):=by
 unfold Bc A7k d2;rw[A5h,U3,U3,Nat.mod_eq_of_lt hx,Nat.mod_eq_of_lt hy]
theorem B0m (n x y:Nat) (hx:x<18446744073709551616) (hy:y<18446744073709551616):M2 (d2 n) (UInt64.ofNat x) (UInt64.ofNat y)=d2 (n+x*y):=by
 have e0:E9 (d2 n) 0=UInt64.ofNat (n / 18446744073709551616):=rfl;have e1:E9 (d2 n) 1=UInt64.ofNat n:=rfl;unfold M2;rw[e0,e1];unfold d2 Wj Yz A7k;have z:(0:UInt64)=UInt64.ofNat 0:=rfl;rw[A5h,U3,U3,U3,U3,Nat.mod_eq_of_lt hx,Nat.mod_eq_of_lt hy,z,U3,Ug,Ug,Ug,Ug];generalize x*y=p;have:UInt64.ofNat (p / 18446744073709551616+n / 18446744073709551616+(p % 18446744073709551616+n % 18446744073709551616+0 % 18446744073709551616) / 18446744073709551616)=UInt64.ofNat ((n+p) / 18446744073709551616):=by congr 1;omega
 rw[this];congr 2;congr 1;omega
theorem C7i (n:Nat):over (d2 n)=UInt64.ofNat (n / 2251799813685248):=by
 have e0:E9 (d2 n) 0=UInt64.ofNat (n / 18446744073709551616):=rfl;have e1:E9 (d2 n) 1=UInt64.ofNat n:=rfl;unfold over;rw[e0,e1];apply UInt64.toNat_inj.1;rw[UInt64.toNat_or,UInt64.toNat_shiftLeft,UInt64.toNat_shiftRight,U3,U3,U3,show (51:UInt64).toNat % 64=51 from rfl,show (13:UInt64).toNat % 64=13 from rfl,Nat.shiftRight_eq_div_pow,Nat.shiftLeft_eq];have e:n / 18446744073709551616 % 18446744073709551616*2 ^ 13 % 2 ^ 64=(n / 18446744073709551616 % 2251799813685248) <<< 13:=by rw[Nat.shiftLeft_eq];omega
 rw[e,←Nat.shiftLeft_add_eq_or_of_lt (by omega),Nat.shiftLeft_eq];omega
theorem D3m (n:Nat):E9 (d2 n) 1 &&& (2251799813685247:UInt64)=UInt64.ofNat (n % 2251799813685248):=C4f n
theorem Fj (a:Nat):19*UInt64.ofNat a=UInt64.ofNat (19*a):=A5h 19 a
theorem A5z (a:Nat):2*UInt64.ofNat a=UInt64.ofNat (2*a):=A5h 2 a
theorem B2q (x0 x1 x2 x3 x4:Nat):Gh [UInt64.ofNat x0,UInt64.ofNat x1,UInt64.ofNat x2,UInt64.ofNat x3,UInt64.ofNat x4]=u5 (C9v x0 x1 x2 x3 x4):=by
 show [(UInt64.ofNat x0 &&& (2251799813685247:UInt64))+19*(UInt64.ofNat x4 >>> (51:UInt64)),(UInt64.ofNat x1 &&& (2251799813685247:UInt64))+UInt64.ofNat x0 >>> (51:UInt64),(UInt64.ofNat x2 &&& (2251799813685247:UInt64))+UInt64.ofNat x1 >>> (51:UInt64),(UInt64.ofNat x3 &&& (2251799813685247:UInt64))+UInt64.ofNat x2 >>> (51:UInt64),(UInt64.ofNat x4 &&& (2251799813685247:UInt64))+UInt64.ofNat x3 >>> (51:UInt64)]=_;simp only[C4f,D5d,Fj,Ug];rfl
theorem C6e (t0 t1 t2 t3 t4:Nat):Oc (d2 t0) (d2 t1) (d2 t2) (d2 t3) (d2 t4)=u5 (D4c t0 t1 t2 t3 t4):=by
 unfold Oc C3s;simp only[D3m,C7i,Fj,Ug];rw[B2q];rfl
theorem Qf (a:Nat):Gc a<18446744073709551616:=Nat.mod_lt _ (by decide)
theorem Fo (x y:N5):C4 (u5 x) (u5 y)=u5 (Em x y):=by
 obtain⟨a0,a1,a2,a3,a4⟩:=x;obtain⟨b0,b1,b2,b3,b4⟩:=y;have e0:E9 (u5 ⟨a0,a1,a2,a3,a4⟩) 0=UInt64.ofNat (Gc a0):=(Z3 _).symm;have e1:E9 (u5 ⟨a0,a1,a2,a3,a4⟩) 1=UInt64.ofNat (Gc a1):=(Z3 _).symm;have e2:E9 (u5 ⟨a0,a1,a2,a3,a4⟩) 2=UInt64.ofNat (Gc a2):=(Z3 _).symm;have e3:E9 (u5 ⟨a0,a1,a2,a3,a4⟩) 3=UInt64.ofNat (Gc a3):=(Z3 _).symm;have e4:E9 (u5 ⟨a0,a1,a2,a3,a4⟩) 4=UInt64.ofNat (Gc a4):=(Z3 _).symm;have f0:E9 (u5 ⟨b0,b1,b2,b3,b4⟩) 0=UInt64.ofNat (Gc b0):=(Z3 _).symm;have f1:E9 (u5 ⟨b0,b1,b2,b3,b4⟩) 1=UInt64.ofNat (Gc b1):=(Z3 _).symm;have f2:E9 (u5 ⟨b0,b1,b2,b3,b4⟩) 2=UInt64.ofNat (Gc b2):=(Z3 _).symm;have f3:E9 (u5 ⟨b0,b1,b2,b3,b4⟩) 3=UInt64.ofNat (Gc b3):=(Z3 _).symm;have f4:E9 (u5 ⟨b0,b1,b2,b3,b4⟩) 4=UInt64.ofNat (Gc b4):=(Z3 _).symm;have n1:19*UInt64.ofNat (Gc a1)=UInt64.ofNat (Gc (Nat.mul 19 a1)):=by rw[Z3,Z3];exact Fj _
 have n2:19*UInt64.ofNat (Gc a2)=UInt64.ofNat (Gc (Nat.mul 19 a2)):=by rw[Z3,Z3];exact Fj _
 have n3:19*UInt64.ofNat (Gc a3)=UInt64.ofNat (Gc (Nat.mul 19 a3)):=by rw[Z3,Z3];exact Fj _
 have n4:19*UInt64.ofNat (Gc a4)=UInt64.ofNat (Gc (Nat.mul 19 a4)):=by rw[Z3,Z3];exact Fj _
 unfold C4 Uh Ui Te Tp Ub;rw[e0,e1,e2,e3,e4,f0,f1,f2,f3,f4,n1,n2,n3,n4];unfold Em E1q;dsimp only;simp only[B5w _ _ (Qf _) (Qf _),B0m _ _ _ (Qf _) (Qf _)];exact C6e _ _ _ _ _
theorem A8a (x:N5):Px (u5 x)=u5 (sqN x):=by
 obtain⟨a0,a1,a2,a3,a4⟩:=x;have e0:E9 (u5 ⟨a0,a1,a2,a3,a4⟩) 0=UInt64.ofNat (Gc a0):=(Z3 _).symm;have e1:E9 (u5 ⟨a0,a1,a2,a3,a4⟩) 1=UInt64.ofNat (Gc a1):=(Z3 _).symm;have e2:E9 (u5 ⟨a0,a1,a2,a3,a4⟩) 2=UInt64.ofNat (Gc a2):=(Z3 _).symm;have e3:E9 (u5 ⟨a0,a1,a2,a3,a4⟩) 3=UInt64.ofNat (Gc a3):=(Z3 _).symm;have e4:E9 (u5 ⟨a0,a1,a2,a3,a4⟩) 4=UInt64.ofNat (Gc a4):=(Z3 _).symm;have n3:19*UInt64.ofNat (Gc a3)=UInt64.ofNat (Gc (Nat.mul 19 a3)):=by rw[Z3,Z3];exact Fj _
 have n4:19*UInt64.ofNat (Gc a4)=UInt64.ofNat (Gc (Nat.mul 19 a4)):=by rw[Z3,Z3];exact Fj _
 have m0:2*UInt64.ofNat (Gc a0)=UInt64.ofNat (Gc (Nat.mul 2 a0)):=by rw[Z3,Z3];exact A5z _
 have m1:2*UInt64.ofNat (Gc a1)=UInt64.ofNat (Gc (Nat.mul 2 a1)):=by rw[Z3,Z3];exact A5z _
 have m2:2*UInt64.ofNat (Gc a2)=UInt64.ofNat (Gc (Nat.mul 2 a2)):=by rw[Z3,Z3];exact A5z _
 have m3:2*UInt64.ofNat (Gc a3)=UInt64.ofNat (Gc (Nat.mul 2 a3)):=by rw[Z3,Z3];exact A5z _
 unfold Px A2g A3d A1h A1p A2h;rw[e0,e1,e2,e3,e4,m0,m1,m2,m3,n3,n4];unfold sqN sqG;dsimp only;simp only[B5w _ _ (Qf _) (Qf _),B0m _ _ _ (Qf _) (Qf _)];exact C6e _ _ _ _ _
theorem A5y (x y:N5):C8 (u5 x) (u5 y)=u5 (Pm x y):=by
 obtain⟨a0,a1,a2,a3,a4⟩:=x;obtain⟨b0,b1,b2,b3,b4⟩:=y;have e:D2z (u5 ⟨a0,a1,a2,a3,a4⟩) (u5 ⟨b0,b1,b2,b3,b4⟩)=[UInt64.ofNat a0+UInt64.ofNat b0,UInt64.ofNat a1+UInt64.ofNat b1,UInt64.ofNat a2+UInt64.ofNat b2,UInt64.ofNat a3+UInt64.ofNat b3,UInt64.ofNat a4+UInt64.ofNat b4]:=rfl;unfold C8;rw[e];simp only[Ug];exact B2q _ _ _ _ _
theorem A5n (a b:Nat):UInt64.ofNat a+(9007199254740988-UInt64.ofNat b)=UInt64.ofNat (a+(18455751272964292604-Gc b)):=by
 apply UInt64.toNat_inj.1;rw[UInt64.toNat_add,UInt64.toNat_sub,U3,U3,U3];have:(9007199254740988:UInt64).toNat=9007199254740988:=rfl;rw[this];show _=(a+(18455751272964292604-b % 18446744073709551616)) % 18446744073709551616;omega
theorem C9z (a b:Nat):UInt64.ofNat a+(9007199254740988-UInt64.ofNat b)-72=UInt64.ofNat (a+(18455751272964292532-Gc b)):=by
 apply UInt64.toNat_inj.1;rw[UInt64.toNat_sub,UInt64.toNat_add,UInt64.toNat_sub,U3,U3,U3];have:(9007199254740988:UInt64).toNat=9007199254740988:=rfl;rw[this];have:(72:UInt64).toNat=72:=rfl;rw[this];show _=(a+(18455751272964292532-b % 18446744073709551616)) % 18446744073709551616;omega
theorem Tw (x y:N5):E4 (u5 x) (u5 y)=u5 (Uq x y):=by
 obtain⟨a0,a1,a2,a3,a4⟩:=x;obtain⟨b0,b1,b2,b3,b4⟩:=y;have e:C2m (u5 ⟨a0,a1,a2,a3,a4⟩) (u5 ⟨b0,b1,b2,b3,b4⟩)=[UInt64.ofNat a0+(9007199254740988-UInt64.ofNat b0)-72,UInt64.ofNat a1+(9007199254740988-UInt64.ofNat b1),UInt64.ofNat a2+(9007199254740988-UInt64.ofNat b2),UInt64.ofNat a3+(9007199254740988-UInt64.ofNat b3),UInt64.ofNat a4+(9007199254740988-UInt64.ofNat b4)]:=rfl;unfold E4;rw[e];rw[C9z,A5n,A5n,A5n,A5n];exact B2q _ _ _ _ _
theorem Ni (n:Nat) (x:N5):Bm n (u5 x)=u5 (Yu n x):=by
 induction n with
 | zero=>rfl
 | succ n ih=>show Px (Bm n (u5 x))=_;rw[ih,A8a];rfl
def B5d (a:N5):N5:=Em (Yu 2 (sqN a)) a
def Zn (a:N5):N5:=Em (B5d a) (sqN a)
def n5 (a:N5):N5:=Em (sqN (Zn a)) (B5d a)
def n10 (a:N5):N5:=Em (Yu 5 (n5 a)) (n5 a)
def n20 (a:N5):N5:=Em (Yu 10 (n10 a)) (n10 a)
def n50 (a:N5):N5:=Em (Yu 10 (Em (Yu 20 (n20 a)) (n20 a))) (n10 a)
def C7l (a:N5):N5:=Em (Yu 50 (n50 a)) (n50 a)
def B6d (a:N5):N5:=Em (Yu 50 (Em (Yu 100 (C7l a)) (C7l a))) (n50 a)
def C4t (a:N5):N5:=Em (Yu 5 (B6d a)) (Zn a)
theorem B5p (a:N5):Hb (u5 a)=u5 (B5d a):=by unfold Hb B5d;simp only[A8a,Ni,Fo]
theorem A4d (a:N5):Fs (u5 a)=u5 (Zn a):=by unfold Fs Zn;simp only[B5p,A8a,Ni,Fo]
theorem E8v (a:N5):f5 (u5 a)=u5 (n5 a):=by unfold f5 n5;simp only[B5p,A4d,A8a,Ni,Fo]
theorem D0x (a:N5):Xp (u5 a)=u5 (n10 a):=by unfold Xp n10;simp only[E8v,Ni,Fo]
theorem D9y (a:N5):Pq (u5 a)=u5 (n20 a):=by unfold Pq n20;simp only[D0x,Ni,Fo]
theorem D1w (a:N5):f50 (u5 a)=u5 (n50 a):=by unfold f50 n50;simp only[D0x,D9y,Ni,Fo]
theorem D4g (a:N5):Jj (u5 a)=u5 (C7l a):=by unfold Jj C7l;simp only[D1w,Ni,Fo]
theorem B6e (a:N5):Ex (u5 a)=u5 (B6d a):=by unfold Ex B6d;simp only[D1w,D4g,Ni,Fo]
theorem C4m (a:N5):Bd (u5 a)=u5 (C4t a):=by unfold Bd C4t;simp only[B6e,A4d,Ni,Fo]
structure PN where
 x:N5
 y:N5
 z:N5
 t:N5
def uP (p:PN):Pn:=⟨u5 p.x,u5 p.y,u5 p.z,u5 p.t⟩
def A1u (p q:PN) (k:N5):PN:=
 let a:=Em (Uq p.y p.x) (Uq q.y q.x)
 let b:=Em (Pm p.y p.x) (Pm q.y q.x)
 let c:=Em (Em p.t k) q.t
 let d:=Em p.z q.z
 let d2:=Pm d d
 let e:=Uq b a
 let f:=Uq d2 c
 let g:=Pm d2 c
 let h:=Pm b a
 ⟨Em e f,Em g h,Em f g,Em e h⟩
def dbN (p:PN):PN:=
 let a:=Em p.x p.x
 let b:=Em p.y p.y
 let c:=Em p.z p.z
 let h:=Pm a b
 let s:=Pm p.x p.y
 let e:=Uq h (Em s s)
 let g:=Uq a b
 let f:=Pm (Pm c c) g
 ⟨Em e f,Em g h,Em f g,Em e h⟩
theorem Vt (p q:PN) (k:N5):X8 (uP p) (uP q) (u5 k)=uP (A1u p q k):=by
 unfold X8 uP A1u;simp only[Fo,A5y,Tw]
theorem C1f (p:PN):Kj (uP p)=uP (dbN p):=by
 unfold Kj uP dbN;simp only[Fo,A5y,Tw]
theorem C3r:(([]:List UInt64)==[])=true:=rfl
def z5N (x:N5):Bool:=(Gc x.a).beq 0&&((Gc x.b).beq 0&&((Gc x.c).beq 0&&((Gc x.d).beq 0&&(Gc x.e).beq 0)))
def zPN (p:PN):Bool:=z5N p.x&&(z5N p.y&&(z5N p.z&&z5N p.t))
theorem D0g (a:Nat):(UInt64.ofNat a==0)=(Gc a).beq 0:=by
 rw[Bool.eq_iff_iff,beq_iff_eq,Nat.beq_eq,←UInt64.toNat_inj,U3];rfl
theorem D0b (x:N5):(u5 x==J2 5)=z5N x:=by
 show ([UInt64.ofNat x.a,UInt64.ofNat x.b,UInt64.ofNat x.c,UInt64.ofNat x.d,UInt64.ofNat x.e]==[0,0,0,0,0])=_;simp only[List.cons_beq_cons,C3r,D0g,Bool.and_true];rfl
theorem E8k (p:PN):((uP p).row==J2 20)=zPN p:=by
 have e:∀(a b c d:List UInt64),a.length=5→b.length=5→c.length=5→d.length=5→(Pw a b c d==J2 20)=((a==J2 5)&&((b==J2 5)&&((c==J2 5)&&(d==J2 5)))):=by
  intro a b c d ha hb hc hd;match a,b,c,d,ha,hb,hc,hd with
  | [a0,a1,a2,a3,a4],[b0,b1,b2,b3,b4],[c0,c1,c2,c3,c4],[d0,d1,d2,d3,d4],_,_,_,_=>
   show ([a0,a1,a2,a3,a4,b0,b1,b2,b3,b4,c0,c1,c2,c3,c4,d0,d1,d2,d3,d4]==[0,0,0,0,0,0,0,0,0,0,0,0,0,0,0,0,0,0,0,0])=(([a0,a1,a2,a3,a4]==[0,0,0,0,0])&&(([b0,b1,b2,b3,b4]==[0,0,0,0,0])&&(([c0,c1,c2,c3,c4]==[0,0,0,0,0])&&([d0,d1,d2,d3,d4]==[0,0,0,0,0]))));simp only[List.cons_beq_cons,C3r,Bool.true_and,Bool.and_true,Bool.and_assoc]
 unfold Pn.row uP zPN;rw[e _ _ _ _ rfl rfl rfl rfl,D0b,D0b,D0b,D0b]
def A2v:N5:=⟨1,0,0,0,0⟩
def Hd:N5:=⟨0,0,0,0,0⟩
theorem B5u:E0 1=u5 A2v:=by decide +kernel
theorem B2i:E0 0=u5 Hd:=by decide +kernel
def A0x (x y:N5):PN:=⟨x,y,A2v,Em x y⟩
theorem Sk (x y:N5):Y0 (u5 x) (u5 y)=uP (A0x x y):=by unfold Y0 uP A0x;simp only[Fo,B5u]
def Iu (p:PN):PN:=if zPN p then A0x Hd A2v else p
theorem Mk (p:PN):D9 (uP p)=uP (Iu p):=by
 unfold D9 Iu;rw[E8k];split
 ·rw[B5u,B2i,Sk]
 ·rfl
def D3h (p:PN):PN:=⟨Uq Hd (Iu p).x,(Iu p).y,(Iu p).z,Uq Hd (Iu p).t⟩
theorem D2p (p:PN):Mf (uP p)=uP (D3h p):=by
 unfold Mf D3h;rw[Mk,B2i];unfold uP;simp only[Tw]
def C1n (k:N5) (p q:PN):PN:=A1u (Iu p) (Iu q) k
theorem D5h {k:N5} (hk:J7=u5 k) (p q:PN):A6r (uP p) (uP q)=uP (C1n k p q):=by
 unfold A6r C1n;rw[Mk,Mk,hk,Vt]
def D1j (x y:N5):List UInt8:=if A1z (u5 x) then (Q5 (u5 y)).set 31 (g8 (Q5 (u5 y)) 31 ||| 128) else Q5 (u5 y)
def A0c (p:PN):List UInt8:=D1j (Em (Iu p).x (C4t (Iu p).z)) (Em (Iu p).y (C4t (Iu p).z))
theorem A5i (p:PN):I9 (uP p)=A0c p:=by
 unfold I9 A0c B0t D1j;rw[Mk];unfold uP;simp only[C4m,Fo]
def C1d:Nat→PN→PN
 | 0,p=>p
 | q+1,p=>dbN (C1d q p)
theorem D4j (q:Nat) (p:PN):Cy q (uP p)=uP (C1d q p):=by
 induction q with
 | zero=>rfl
 | succ q ih=>show Kj (Cy q (uP p))=_;rw[ih,C1f];rfl
def B5f (k:N5) (p:PN):Nat→PN
 | 0=>A0x Hd A2v
 | 1=>Iu p
 | i+2=>A1u (B5f k p (i+1)) (Iu p) k
theorem Ud:D9 Co=uP (A0x Hd A2v):=by
 have:Co=uP ⟨Hd,Hd,Hd,Hd⟩:=rfl;rw[this,Mk];rfl
theorem B3f (k:N5) (p:PN):∀i,Cw (uP p) (u5 k) i=uP (B5f k p i)
 | 0=>Ud
 | 1=>Mk p
 | i+2=>by show X8 (Cw (uP p) (u5 k) (i+1)) (D9 (uP p)) (u5 k)=_;rw[B3f k p (i+1),Mk,Vt];rfl
def B3r (k:N5) (b:PN) (n:List UInt8) (p:PN) (m:List UInt8):Nat→PN
 | 0=>A0x Hd A2v
 | i+1=>A1u (A1u (C1d 4 (B3r k b n p m i)) (B5f k b (dg n (63-i))) k) (B5f k p (dg m (63-i))) k
theorem B6c {k:N5} {b:PN} (hk:J7=u5 k) (hb:E8=uP b) (n:List UInt8) (p:PN) (m:List UInt8):∀i,Ci n (uP p) m i=uP (B3r k b n p m i)
 | 0=>by
  show Q8 (O9 E8 J7) 0=_;rw[Wx (by decide)];exact Ud
 | i+1=>by
  show X8 (X8 (Cy 4 (Ci n (uP p) m i)) (Q8 (O9 E8 J7) (dg n (63-i))) J7) (Q8 (O9 (uP p) J7) (dg m (63-i))) J7=_;rw[Wx (A8z _ _),Wx (A8z _ _),B6c hk hb n p m i,hk,hb,B3f,B3f,D4j,Vt,Vt];rfl
def B5r (k:N5):Nat→PN→PN
 | 0,p=>p
 | q+1,p=>C1n k (B5r k q p) (B5r k q p)
theorem C0o {k:N5} (hk:J7=u5 k) (p:PN):∀q,Ng q (uP p)=uP (B5r k q p)
 | 0=>rfl
 | q+1=>by show A6r (Ng q (uP p)) (Ng q (uP p))=_;rw[C0o hk p q,D5h hk];rfl
def B1y (k:N5) (p:PN):Bool:=A0c (B5r k 3 p)==h1 1
theorem C5z {k:N5} (hk:J7=u5 k) (p:PN):Qa (uP p)=B1y k p:=by unfold Qa B1y;rw[C0o hk,A5i]
def B5i (l:List PN) (i:Nat):PN:=l.getD i ⟨Hd,Hd,Hd,Hd⟩
def Qe (k:N5) (l:List PN) (n:List UInt8) (s:Nat) (r:PN):Nat→PN
 | 0=>r
 | i+1=>if B9y n i s then A1u (Qe k l n s r i) (B5i l i) k else Qe k l n s r i
def Ut (k:N5) (l:List PN) (n:List UInt8):Nat→PN
 | 0=>A0x Hd A2v
 | m+1=>Qe k l n (7-m) (dbN (Ut k l n m)) 32
theorem We {k:N5} {l:List PN} (hk:J7=u5 k) (hl:∀i,i<32→Nl i=uP (B5i l i)) (n:List UInt8) (s:Nat) (r:PN):∀i,i≤32→Ct n s (uP r) i=uP (Qe k l n s r i)
 | 0,_=>rfl
 | i+1,hi=>by
  unfold Ct Qe;split
  ·rw[We hk hl n s r i (by omega),hl i (by omega),hk,Vt]
  ·exact We hk hl n s r i (by omega)
theorem A9t {k:N5} {l:List PN} (hk:J7=u5 k) (hl:∀i,i<32→Nl i=uP (B5i l i)) (n:List UInt8):∀m,Bq n m=uP (Ut k l n m)
 | 0=>Ud
 | m+1=>by
  show Ct n (7-m) (Kj (Bq n m)) 32=_;rw[A9t hk hl n m,C1f,We hk hl _ _ _ _ (Nat.le_refl _)];rfl
def rWN (u v:N5):N5:=Em u (C4t v)
def C2n (u v:N5):N5:=Em (Yu 2 (B6d (rWN u v))) (sqN (rWN u v))
def B5b (x w:N5):Bool:=Q5 (u5 (Em x x))==Q5 (u5 w)
def C3k:N5:=⟨1718705420411056,234908883556509,2233514472574048,2117202627021982,765476049583133⟩
theorem C7c:Fu=u5 C3k:=rfl
def C8i (u v:N5):N5:=if B5b (C2n u v) (rWN u v) then C2n u v else Em (C2n u v) C3k
def C2u (x:N5):N5:=if A1z (u5 x) then Uq Hd x else x
def rBN (u v:N5):Bool:=!(Q5 (u5 v)==z8 32)&&B5b (C8i u v) (rWN u v)
def rLN (u v:N5):N5:=if rBN u v then C2u (C8i u v) else Hd
theorem A6o (u v:N5):Bn (u5 u) (u5 v)=u5 (rWN u v):=by unfold Bn rWN;simp only[C4m,Fo]
theorem C2h (u v:N5):Cm (u5 u) (u5 v)=u5 (C2n u v):=by unfold Cm C2n;simp only[A6o,B6e,Ni,A8a,Fo]
theorem C1o (x w:N5):B3h (u5 x) (u5 w)=B5b x w:=by unfold B3h B5b;rw[Fo]
theorem B0v (u v:N5):Ly (u5 u) (u5 v)=u5 (C8i u v):=by
 unfold Ly C8i;rw[C2h,A6o,C1o,C7c,Fo];split<;>rfl
theorem D4m (x:N5):A5x (u5 x)=u5 (C2u x):=by
 unfold A5x C2u;have:J2 5=u5 Hd:=rfl;rw[this,Tw];split<;>rfl
theorem B5j (u v:N5):El (u5 u) (u5 v)=rBN u v:=by unfold El rBN;rw[B0v,A6o,C1o]
theorem C8r (u v:N5):Z5 (u5 u) (u5 v)=u5 (rLN u v):=by
 unfold Z5 rLN;rw[B5j,B0v,D4m];split<;>rfl
def C5u (kd y:N5):N5:=rLN (Uq (Em y y) A2v) (Pm (Em (Em y y) kd) A2v)
def B5v (kd y:N5):Bool:=rBN (Uq (Em y y) A2v) (Pm (Em (Em y y) kd) A2v)
theorem D2r {b:List UInt8} {kd y:N5} (hd:Gg=u5 kd) (hy:Xb b=u5 y):Xn b=u5 (C5u kd y):=by
 unfold Xn C5u B1i B1n;rw[hy,hd,B5u];simp only[Fo,Tw,A5y,C8r]
theorem C7k {b:List UInt8} {kd y:N5} (hd:Gg=u5 kd) (hy:Xb b=u5 y):El (B1i b) (B1n b)=B5v kd y:=by
 unfold B5v B1i B1n;rw[hy,hd,B5u];simp only[Fo,Tw,A5y,B5j]
theorem C8k {b:List UInt8} {kd y x:N5} (hd:Gg=u5 kd) (hy:Xb b=u5 y) (hx:Xn b=u5 x) (h1:Mp (F8 b)=true) (h2:B5v kd y=true) (h3:(Lo b&&Q5 (u5 x)==z8 32)=false):Iq b=true:=by
 unfold Iq;rw[C7k hd hy,h1,h2,hx,h3];rfl
theorem D3f {b:List UInt8} {y x:N5} (ho:Iq b=true) (hy:Xb b=u5 y) (hx:Xn b=u5 x):Ed b=uP (A0x (if Lo b then Uq Hd x else x) y):=by
 unfold Ed;rw[if_pos ho,hx,hy,B2i,Tw];split<;>exact Sk _ _
section
def eq5 (x y:N5):Bool:=Nat.beq x.a y.a&&(Nat.beq x.b y.b&&(Nat.beq x.c y.c&&(Nat.beq x.d y.d&&Nat.beq x.e y.e)))
theorem Wr {x y:N5} (h:eq5 x y=true):x=y:=by
 obtain⟨a,b,c,d,e⟩:=x;obtain⟨a',b',c',d',e'⟩:=y;simp only[eq5,Bool.and_eq_true,Nat.beq_eq]at h;obtain⟨rfl,rfl,rfl,rfl,rfl⟩:=h;rfl
def eqP (p q:PN):Bool:=eq5 p.x q.x&&(eq5 p.y q.y&&(eq5 p.z q.z&&eq5 p.t q.t))
theorem B2r {p q:PN} (h:eqP p q=true):p=q:=by
 obtain⟨a,b,c,d⟩:=p;obtain⟨a',b',c',d'⟩:=q;simp only[eqP,Bool.and_eq_true]at h;rw[Wr h.1,Wr h.2.1,Wr h.2.2.1,Wr h.2.2.2]
set_option maxRecDepth 100000
set_option maxHeartbeats 0
def D3x:N5:=⟨929955233495203,466365720129213,1662059464998953,2033849074728123,1442794654840575⟩
def A5e:N5:=⟨1859910466990425,932731440258426,1072319116312658,1815898335770999,633789495995903⟩
def A1y:PN:=⟨⟨1738742601995546,1146398526822698,2070867633025821,562264141797630,587772402128613⟩,⟨1801439850948184,1351079888211148,450359962737049,900719925474099,1801439850948198⟩,⟨1,0,0,0,0⟩,⟨1841354044333475,16398895984059,755974180946558,900171276175154,1821297809914039⟩⟩
theorem D0w:Gg=u5 D3x:=by decide +kernel
theorem B3i:J7=u5 A5e:=by decide +kernel
theorem C9d:C6 Kd=u5 A1y.x:=by decide +kernel
theorem D0t:C6 Jx=u5 A1y.y:=by decide +kernel
theorem C9p:eq5 (Em A1y.x A1y.y) A1y.t=true:=by decide +kernel
theorem D5a:E8=uP A1y:=by
 show Y0 (C6 Kd) (C6 Jx)=_;rw[C9d,D0t,Sk];unfold A0x;rw[Wr C9p];rfl
def A8i (row:List UInt8) (k:Nat):UInt8:=St (g8 row (2*k)) <<< 4 ||| St (g8 row (2*k+1))
theorem B6g (l:List UInt8) (n j:Nat):g8 (l.drop n) j=g8 l (n+j):=by
 unfold g8;rw[List.getD_eq_getElem?_getD,List.getD_eq_getElem?_getD,List.getElem?_drop]
theorem B8s (i:Nat):B6m i=Kn (A8i (X5.drop (128*i))) 64 64:=by
 unfold B6m;have:Eh i=A8i (X5.drop (128*i)):=by
  funext k;unfold Eh A8i;rw[B6g,B6g];rfl
 rw[this]
noncomputable def Z9 (i:Nat) (p:PN):Bool:=C6 (H7 (Kn (A8i (X5.drop (128*i))) 64 64) 0)==u5 p.x&&(C6 (H7 (Kn (A8i (X5.drop (128*i))) 64 64) 32)==u5 p.y&&eqP (A0x p.x p.y) p)
theorem X9 {i:Nat} {p:PN} (h:Z9 i p=true):Nl i=uP p:=by
 unfold Z9 at h;simp only[Bool.and_eq_true,beq_iff_eq]at h;unfold Nl;rw[B8s,h.1,h.2.1,Sk,B2r h.2.2]
def kL0:PN:=⟨⟨1738742601995546,1146398526822698,2070867633025821,562264141797630,587772402128613⟩,⟨1801439850948184,1351079888211148,450359962737049,900719925474099,1801439850948198⟩,⟨1,0,0,0,0⟩,⟨1841354044333475,16398895984059,755974180946558,900171276175154,1821297809914039⟩⟩
def kL1:PN:=⟨⟨207657587877206,2100806663644183,634766761317859,1794349103177875,1662326270124510⟩,⟨1161296182310599,941340786753986,2054541528034550,348227273872704,269755449941776⟩,⟨1,0,0,0,0⟩,⟨956558613127806,218246011415390,1471725144979126,911638385797892,1757616091032277⟩⟩
def kL2:PN:=⟨⟨1521219502450021,1846410879841235,34313878798212,10546997869797,1652014780966119⟩,⟨1658952464264246,301281990073328,1421351965663984,1976190811556149,784992082977218⟩,⟨1,0,0,0,0⟩,⟨892904545274529,1276862129681126,2227823945098524,1198975692454157,531459573462592⟩⟩
def kL3:PN:=⟨⟨227770048461431,487879623988285,1417664382069336,21120743092234,192648498818915⟩,⟨489485269993669,31434140373030,662742595234372,520860463613287,581679651492685⟩,⟨1,0,0,0,0⟩,⟨440709916510127,606245067725176,575712091139983,1665763122282094,1396451099334619⟩⟩
def kL4:PN:=⟨⟨2137057258114235,578737412616802,222102366986352,1234677837468596,1356664587499029⟩,⟨1722913527544090,2088871461428873,1128366041178413,803942221589082,1922039712175331⟩,⟨1,0,0,0,0⟩,⟨643056839880049,523898651151534,204380683349760,1233102105443002,2156664000083962⟩⟩
def kL5:PN:=⟨⟨1285304317579493,539645416220191,1912192162872302,1488507247591807,271320221614130⟩,⟨78734827152218,1357852017365999,290905538263157,908753962904692,1078524239176568⟩,⟨1,0,0,0,0⟩,⟨1377163577851704,1450974270990480,1438768082383222,73739011122910,715982777037845⟩⟩
def kL6:PN:=⟨⟨2139631458254162,114745178815772,1087650998417340,1304905119131584,1454119089317820⟩,⟨1848586308489622,611786136704735,745684036015187,324537442443163,1422099643653513⟩,⟨1,0,0,0,0⟩,⟨289958792114194,1718243155014068,618410686050882,2148570867678717,2200768563603231⟩⟩
def kL7:PN:=⟨⟨54901458865636,727536360848802,1177631862964415,1689752924059193,2003135700883297⟩,⟨373003406320657,975674768844653,407736244583094,1999031378370391,1009852647415928⟩,⟨1,0,0,0,0⟩,⟨1775725816775503,1049202381591688,1875336355828115,1273325138276258,1490320459503170⟩⟩
def kL8:PN:=⟨⟨962690963841538,2210719638316993,706068330177389,1384191282407386,1726421572252383⟩,⟨1964103625364243,307116021699043,120882883216088,20816463754899,55369446368493⟩,⟨1,0,0,0,0⟩,⟨1568907369646169,514127314339263,40774287502072,1976251032040224,1733588893334842⟩⟩
def kL9:PN:=⟨⟨1071545802964639,1907633890512027,1590806793797968,801793450737153,552650580738272⟩,⟨147714283167257,991334929770036,740594144646985,1359930762689594,2104011130007174⟩,⟨1,0,0,0,0⟩,⟨1753093361894213,1521233125158248,1386128832987038,1088053247760158,193516695534830⟩⟩
def E3a:PN:=⟨⟨513161589821684,135189712591322,268115112334192,732346932090735,1698600094179178⟩,⟨1926627679356154,546033803356952,1665378458738264,1140574075214145,1041362083641741⟩,⟨1,0,0,0,0⟩,⟨1353416909210792,1517015454331480,809582929435518,2005509998263633,1154861397913715⟩⟩
def D9p:PN:=⟨⟨1739414694272229,1521928877555375,1503334770669637,763386956585108,1862129073046365⟩,⟨1268802689912462,967753215362474,632928647924378,938581088869778,1093383925776355⟩,⟨1,0,0,0,0⟩,⟨1439619040869311,122358970891288,2003741039041763,1571825034906733,1553939020907850⟩⟩
def E2n:PN:=⟨⟨1228065289500112,1995656439401154,747490468072570,1771782479153808,1441803220130225⟩,⟨1133256506751681,1971401122869232,364740748818945,274858525947676,944245750712036⟩,⟨1,0,0,0,0⟩,⟨969799468763409,758675615912443,164497183604933,410658007103705,1365606147138959⟩⟩
def E2a:PN:=⟨⟨2050219849394447,2136640035013897,682111103158185,1698971002258475,442296111034018⟩,⟨558048773939678,897533695604502,1035891336244684,1945051063646027,220875155027932⟩,⟨1,0,0,0,0⟩,⟨136528770899845,637133720221738,1127633800314291,1677182430025837,1482130520813037⟩⟩
def E1l:PN:=⟨⟨513905658590587,680817969573829,1150970882872061,354648524841429,1182660725187364⟩,⟨1687245214141198,1499423053851412,1198492387236350,1278757245406394,1918084130941870⟩,⟨1,0,0,0,0⟩,⟨13131300766877,2018180793845027,437449436518264,116732650814892,1368575053372683⟩⟩
def E2h:PN:=⟨⟨124475054908452,1906983202879951,611701698187204,1873527664260246,1365903236220276⟩,⟨1978406422605413,1915091176750658,961916202316503,396934785157585,866421071701821⟩,⟨1,0,0,0,0⟩,⟨417773349695347,1654602006188621,985389090556103,1189633363629426,288170139646185⟩⟩
def D8r:PN:=⟨⟨78814272546852,343446598238096,1469662686845463,446722075312752,1339733442806879⟩,⟨770831939905131,1066752177064823,855905013023480,1194941381303059,1674322643330780⟩,⟨1,0,0,0,0⟩,⟨2025065385374602,84441031851324,1769310306558354,26295680040963,99051874860870⟩⟩
def E3k:PN:=⟨⟨2248752024183766,708723593180029,1256489519620460,1977762733290583,2173540277402287⟩,⟨356808580336773,889637948668713,2118215992267087,2196570670553569,497367236949540⟩,⟨1,0,0,0,0⟩,⟨637585733359542,1435081831225848,1456442193699608,1717437606507251,1447466321451996⟩⟩
def D9j:PN:=⟨⟨2102370904129425,9421038388327,922877803622304,1730456536722459,762334075187381⟩,⟨427580487847279,1800861300174619,848721725908694,1905002686634420,2174839152969707⟩,⟨1,0,0,0,0⟩,⟨268052600032300,1676250763249512,1344774212489870,1877856504985088,1551852259475401⟩⟩
def D8t:PN:=⟨⟨73949236156954,243328099540869,285103069684975,535059367582198,507523117579041⟩,⟨81762443123683,437772300968419,104708665526234,1600664443758511,2153009907310332⟩,⟨1,0,0,0,0⟩,⟨525185820960592,2109162826897277,1727597431782170,94579111876036,1943291465670801⟩⟩
def E1f:PN:=⟨⟨1007523394043953,877179782120715,750791257494571,1684193508924439,1481971162173362⟩,⟨892412035198752,724888969399762,189791939055799,650037373814668,58891993572333⟩,⟨1,0,0,0,0⟩,⟨2012424166711840,1051009010171064,985378134251402,340978745693086,76576796701879⟩⟩
def E0w:PN:=⟨⟨1221600705668234,422433434344282,1165451223563677,146148415932141,2233882774218833⟩,⟨27130515852506,1042767501773405,1627152082831711,2158630032433998,279351529642523⟩,⟨1,0,0,0,0⟩,⟨399543236321792,304278115101828,1696822803913734,1638181959782862,1187398200262185⟩⟩
def E0n:PN:=⟨⟨1707106071538538,1034947591101305,1883622717070250,2247368448221425,79795392053140⟩,⟨1911252298510640,413658976450780,1847058117559766,170234544819720,1035923066070357⟩,⟨1,0,0,0,0⟩,⟨1620168465800920,853903694194838,1629795986498023,449057437180843,773788728556441⟩⟩
def E1m:PN:=⟨⟨705317732516645,1259080967901750,110596001674658,152606910492821,257476921021274⟩,⟨2000400530866971,1099125665712498,1961944974262476,155981950177417,1046917659734111⟩,⟨1,0,0,0,0⟩,⟨730820343861142,1746061691430809,1882659248310344,918803715970310,1070778979244388⟩⟩
def E1g:PN:=⟨⟨798540852548237,1186388878089071,554557418141563,2038592377592718,488711206961541⟩,⟨833812069173299,646939731425630,1538221673810424,2137163637965756,1721356815521377⟩,⟨1,0,0,0,0⟩,⟨76009751102151,1911895294413367,1262509771121608,1445197895593765,460973337299855⟩⟩
def E4n:PN:=⟨⟨54500732029931,1229228649591394,1395999898189729,1718070411837384,1664301080442019⟩,⟨1903443165125547,559438718436641,993492825524625,534768921454925,1413903496556256⟩,⟨1,0,0,0,0⟩,⟨120803451939400,1228462511466555,1825422928562560,2073882328972608,1338393801812170⟩⟩
def E3l:PN:=⟨⟨2009719025433307,1338026402858380,368645885213984,1305913578656784,900000752165226⟩,⟨901384702181433,618421315369192,1461922630708682,1786955284772872,769606372041141⟩,⟨1,0,0,0,0⟩,⟨2237692444171697,2144656409190513,1435531634016049,1875943125805625,1458226165828182⟩⟩
def D8s:PN:=⟨⟨1290284552533580,149109026735730,152217355613238,1936628254954832,289514889573986⟩,⟨545116827004962,24791008572662,666030275103494,2077271970883202,731991509874304⟩,⟨1,0,0,0,0⟩,⟨682751199693311,2090280524683502,1447319815966402,753208601256438,2019644203483639⟩⟩
def D9t:PN:=⟨⟨66253276699711,1252511340070009,2001984381343139,1811095600397663,2073215811985677⟩,⟨1623460295322413,1593143032869612,1227910477134078,174031738331835,1854653122047196⟩,⟨1,0,0,0,0⟩,⟨378835871973892,862775089586864,2213372231758376,1367038889672674,1837642890635372⟩⟩
def E3t:PN:=⟨⟨855109427260935,1192666648398113,1070509169023896,49743400943463,2059455722217761⟩,⟨1868326402194645,1731588568080711,734486077860206,1792565842527341,1694206596449169⟩,⟨1,0,0,0,0⟩,⟨1030568103689263,1717414762294505,1289812983312952,428593515366431,1052052483814347⟩⟩
def D8v:PN:=⟨⟨1078783740036999,198946038155516,1242334275692922,1915693194367353,716690677826317⟩,⟨1158255922756604,2050076295205690,816279270940781,485560714163174,1498485971338264⟩,⟨1,0,0,0,0⟩,⟨949271686208484,1835219553732856,1146775173265892,2161931743141499,1913301798815708⟩⟩
def D9g:PN:=⟨⟨302555565364767,1820588068919652,772267205884354,1865066538047563,1551475371085944⟩,⟨1996585736328222,70826822300604,211627457424574,562895043924503,1826585557779011⟩,⟨1,0,0,0,0⟩,⟨338531462563851,1655232836796258,315301918780359,145172540828775,2195524900867729⟩⟩
theorem E9c:Z9 0 kL0=true:=by decide +kernel
theorem E8l:Z9 1 kL1=true:=by decide +kernel
theorem E7o:Z9 2 kL2=true:=by decide +kernel
theorem E7y:Z9 3 kL3=true:=by decide +kernel
theorem E9e:Z9 4 kL4=true:=by decide +kernel
theorem E8i:Z9 5 kL5=true:=by decide +kernel
theorem E9h:Z9 6 kL6=true:=by decide +kernel
theorem E7w:Z9 7 kL7=true:=by decide +kernel
theorem E7m:Z9 8 kL8=true:=by decide +kernel
theorem E8x:Z9 9 kL9=true:=by decide +kernel
theorem E1p:Z9 10 E3a=true:=by decide +kernel
theorem E3w:Z9 11 D9p=true:=by decide +kernel
theorem E2y:Z9 12 E2n=true:=by decide +kernel
theorem D8c:Z9 13 E2a=true:=by decide +kernel
theorem E1i:Z9 14 E1l=true:=by decide +kernel
theorem D8u:Z9 15 E2h=true:=by decide +kernel
theorem E4h:Z9 16 D8r=true:=by decide +kernel
theorem D8x:Z9 17 E3k=true:=by decide +kernel
theorem D9b:Z9 18 D9j=true:=by decide +kernel
theorem D9s:Z9 19 D8t=true:=by decide +kernel
theorem E3b:Z9 20 E1f=true:=by decide +kernel
theorem E4i:Z9 21 E0w=true:=by decide +kernel
theorem E0k:Z9 22 E0n=true:=by decide +kernel
theorem D8y:Z9 23 E1m=true:=by decide +kernel
theorem E4l:Z9 24 E1g=true:=by decide +kernel
theorem E4a:Z9 25 E4n=true:=by decide +kernel
theorem E1r:Z9 26 E3l=true:=by decide +kernel
theorem D8l:Z9 27 D8s=true:=by decide +kernel
theorem E3x:Z9 28 D9t=true:=by decide +kernel
theorem D9c:Z9 29 E3t=true:=by decide +kernel
theorem E3r:Z9 30 D8v=true:=by decide +kernel
theorem E0h:Z9 31 D9g=true:=by decide +kernel
def D0j:List PN:=[kL0,kL1,kL2,kL3,kL4,kL5,kL6,kL7,kL8,kL9,E3a,D9p,E2n,E2a,E1l,E2h,D8r,E3k,D9j,D8t,E1f,E0w,E0n,E1m,E1g,E4n,E3l,D8s,D9t,E3t,D8v,D9g]
theorem E1n:∀i,i<32→Nl i=uP (B5i D0j i):=by
 intro i hi;match i,hi with
 | 0,_=>exact X9 E9c
 | 1,_=>exact X9 E8l
 | 2,_=>exact X9 E7o
 | 3,_=>exact X9 E7y
 | 4,_=>exact X9 E9e
 | 5,_=>exact X9 E8i
 | 6,_=>exact X9 E9h
 | 7,_=>exact X9 E7w
 | 8,_=>exact X9 E7m
 | 9,_=>exact X9 E8x
 | 10,_=>exact X9 E1p
 | 11,_=>exact X9 E3w
 | 12,_=>exact X9 E2y
 | 13,_=>exact X9 D8c
 | 14,_=>exact X9 E1i
 | 15,_=>exact X9 D8u
 | 16,_=>exact X9 E4h
 | 17,_=>exact X9 D8x
 | 18,_=>exact X9 D9b
 | 19,_=>exact X9 D9s
 | 20,_=>exact X9 E3b
 | 21,_=>exact X9 E4i
 | 22,_=>exact X9 E0k
 | 23,_=>exact X9 D8y
 | 24,_=>exact X9 E4l
 | 25,_=>exact X9 E4a
 | 26,_=>exact X9 E1r
 | 27,_=>exact X9 D8l
 | 28,_=>exact X9 E3x
 | 29,_=>exact X9 D9c
 | 30,_=>exact X9 E3r
 | 31,_=>exact X9 E0h
 | n+32,h=>exact absurd h (by omega)
theorem B0s {n:List UInt8} {q:PN} {b:List UInt8} (h:Ut A5e D0j n 8=q) (e:(A0c q==b)=true):I9 (J9 E8 n)=b:=by
 have h1:J9 E8 n=Qn n:=A7p n (beq_self_eq_true _);rw[h1];show I9 (Bq n 8)=b;rw[A9t B3i E1n,h,A5i];exact eq_of_beq e
end
structure Ev where
 A:List UInt8
 S:List UInt8
 B:List UInt8
 M:List UInt8
 F:List UInt8
 RB:List UInt8
 KB:List UInt8
 SB:List UInt8
 R:List UInt64
 K:List UInt64
 Y:N5
 X:N5
 P:PN
 Q:PN
noncomputable def Ev.c1 (e:Ev) (sd ky:List UInt8):Bool:=N6 sd==e.A&&(M6 sd==e.S&&(Ca 1 (Aq 1 ky)==e.M&&(J5 [e.S,e.M]==e.R&&(I7 e.R==e.RB&&J5 [e.F,e.B,e.M]==e.K))))
noncomputable def Ev.c2 (e:Ev):Bool:=A0c (Ut A5e D0j e.A 8)==e.B
noncomputable def Ev.c3 (e:Ev):Bool:=A0c (Ut A5e D0j e.RB 8)==e.F
noncomputable def Ev.c4 (e:Ev):Bool:=I7 (Hc e.R (Fy e.K (Q7 e.A)))==e.SB&&(Fh (Fh (z8 64) 0 e.F) 32 e.SB==e.F++e.SB&&(Xb e.B==u5 e.Y&&(eq5 (C5u D3x e.Y) e.X&&(Mp (F8 e.B)&&(B5v D3x e.Y&&(!(Lo e.B&&Q5 (u5 e.X)==z8 32)&&(eqP (A0x (if Lo e.B then Uq Hd e.X else e.X) e.Y) e.P && !B1y A5e e.P)))))))
noncomputable def Ev.c5 (e:Ev):Bool:=eqP (D3h e.P) e.Q&&(H7 (e.F++e.SB) 0==e.F&&(H7 (e.F++e.SB) 32==e.SB&&(Rf e.SB&&(I7 (Dq e.SB)==e.SB&&I7 e.K==e.KB))))
noncomputable def Ev.c6 (e:Ev):Bool:=A0c (B3r A5e A1y e.SB e.Q e.KB 64)==e.F
theorem Ev.upd {e:Ev} {sd ky:List UInt8} (h1:e.c1 sd ky=true) (h2:e.c2=true) (h3:e.c3=true) (h4:e.c4=true) (h5:e.c5=true) (h6:e.c6=true) :
 mkU sd 1 ky=⟨e.B,1,ky,e.F++e.SB⟩∧signedB (mkU sd 1 ky)=true:=by
 simp only[Ev.c1,Ev.c2,Ev.c3,Ev.c4,Ev.c5,Ev.c6,Bool.and_eq_true,beq_iff_eq,Bool.not_eq_true']at h1 h2 h3 h4 h5 h6;obtain⟨a1,a2,a3,a4,a5,a6⟩:=h1;obtain⟨b1,b2,b3,b4,b5,b6,b7,b8,b9⟩:=h4;obtain⟨d1,d2,d3,d4,d5,d6⟩:=h5;have aB:Cs sd=e.B:=by unfold Cs;rw[a1];exact B0s rfl (by rw[h2];exact beq_self_eq_true _)
 have r:sgR sd [e.M]=e.R:=by unfold sgR;rw[a2,a4]
 have f:sgF sd [e.M]=e.F:=by unfold sgF;rw[r,a5];exact B0s rfl (by rw[h3];exact beq_self_eq_true _)
 have k:sgK sd [e.M]=e.K:=by unfold sgK;rw[f,aB,a6]
 have s:sgS sd [e.M]=e.SB:=by unfold sgS;rw[r,k,a1,b1]
 have sg:Rp sd [e.M]=e.F++e.SB:=by unfold Rp;rw[f,s,b2]
 have Yv:mkU sd 1 ky=⟨e.B,1,ky,e.F++e.SB⟩:=by unfold mkU Je;rw[aB,a3,sg]
 have x:Xn e.B=u5 e.X:=by rw[D2r D0w b3,Wr b4]
 have ok:=C8k D0w b3 x b5 b6 b7;have p:Ed e.B=uP e.P:=by rw[D3f ok b3 x,B2r b8]
 have aA:Qa (Ed e.B)=false:=by rw[p,C5z B3i];exact b9
 have vf:vfH e.B (e.F++e.SB) [e.M]=e.F:=by unfold vfH vfK;rw[d2,d3,a6,d5,d6,p,D2p,B2r d1];show I9 (Ci e.SB (uP e.Q) e.KB 64)=e.F;rw[B6c B3i D5a,A5i];exact h6
 refine ⟨Yv,?_⟩;rw[Yv,A0z rfl rfl];show Hw e.B 1 (Aq 1 ky) (e.F++e.SB)=true;unfold Hw;rw[a3];unfold Ez;rw[ok,aA,d3,d4,vf,d2];simp
section
set_option maxRecDepth 100000
set_option maxHeartbeats 0
def eu9:Ev:=⟨[200,12,38,94,204,130,221,140,238,110,86,206,68,228,93,175,215,160,197,117,13,249,20,178,83,161,251,122,138,246,109,91],[153,118,54,7,240,168,93,11,212,54,105,25,74,58,64,87,122,82,138,243,149,244,241,126,6,241,222,252,198,222,178,165],[206,204,21,7,220,29,221,114,149,149,28,41,8,136,240,149,173,185,4,77,27,115,214,150,230,223,6,93,104,59,212,252],[119,105,116,97,110,1,0,0,0,0,0,0,0,40,0,0,0,0,0,0,0,1,2,0,0,0,0,0,0,0,0,0,0,0,0,0,0,0,0,0,0,0,0,0,0,0,0,0,0,0,0,0,0,0],[64,101,153,252,184,252,127,12,178,104,81,213,210,93,225,110,129,25,57,11,233,232,78,111,238,98,161,158,158,160,9,221],[167,252,29,139,182,217,45,132,98,137,196,27,99,180,115,68,110,202,10,208,71,8,74,92,133,143,5,193,177,247,82,15],[214,238,226,20,71,240,237,40,73,55,30,53,211,205,43,118,196,138,196,95,192,113,100,57,43,128,41,30,173,73,71,15],[32,243,253,161,234,217,59,155,58,20,160,32,162,85,10,218,5,180,99,46,43,65,14,16,108,211,123,246,150,20,197,13],[9524508164999740583,4932484354661452130,6650136904292026990,1104217201478832005],[2949277519081303766,8515125827487020873,4135555428887333572,1100929641799581739],⟨1440205732433102,287125319888475,1146682017825312,2237830084005286,2196015545700461⟩,⟨626536395482458,295576395633887,1336003373205109,698547845527882,1208567494868599⟩,⟨⟨1625263418202771,1956223418051360,915796440480138,1553251968157365,1043232318816648⟩,⟨1440205732433102,287125319888475,1146682017825312,2237830084005286,2196015545700461⟩,⟨1,0,0,0,0⟩,⟨243950350799911,1923543989867015,1055101283805844,742455266160301,82920972177670⟩⟩,⟨⟨626536395482458,295576395633887,1336003373205109,698547845527882,1208567494868599⟩,⟨1440205732433102,287125319888475,1146682017825312,2237830084005286,2196015545700461⟩,⟨1,0,0,0,0⟩,⟨2007849462885318,328255823818232,1196698529879403,1509344547524946,2168878841507577⟩⟩⟩
theorem E1a:mkU (h1 1) 1 (h1 2)=⟨eu9.B,1,h1 2,eu9.F++eu9.SB⟩∧signedB (mkU (h1 1) 1 (h1 2))=true:=Ev.upd (by decide +kernel) (by decide +kernel) (by decide +kernel) (by decide +kernel) (by decide +kernel) (by decide +kernel)
end
end Go.Proofs.YtlegpkdighoflaaGreat
