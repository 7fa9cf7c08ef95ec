/- A part of the proof of DirOrder. -/
import Derived.Test.YtlegpkdighoflaaGreatQaw
set_option linter.unusedVariables false
set_option linter.unusedSimpArgs false
set_option maxRecDepth 100000
set_option maxHeartbeats 40000000
namespace Go.Proofs.YtlegpkdighoflaaGreat
open Go Go.RowKit Sh
structure N5 where
 a:Nat
 b:Nat
 c:Nat
 d:Nat
 e:Nat
def u5 (x:N5):List UInt64:=[UInt64.ofNat x.a,UInt64.ofNat x.b,UInt64.ofNat x.c,UInt64.ofNat x.d,UInt64.ofNat x.e]
@[simp] theorem C8p (x : N5) : (u5 x).length = 5 := rfl
def C1l (x0 x1 x2 x3 x4:Nat):N5:=
 ⟨Nat.add (Nat.mod x0 2251799813685248) (Nat.mul 19 (Nat.div (Nat.mod x4 18446744073709551616) 2251799813685248)),
  Nat.add (Nat.mod x1 2251799813685248) (Nat.div (Nat.mod x0 18446744073709551616) 2251799813685248),
  Nat.add (Nat.mod x2 2251799813685248) (Nat.div (Nat.mod x1 18446744073709551616) 2251799813685248),
  Nat.add (Nat.mod x3 2251799813685248) (Nat.div (Nat.mod x2 18446744073709551616) 2251799813685248),
  Nat.add (Nat.mod x4 2251799813685248) (Nat.div (Nat.mod x3 18446744073709551616) 2251799813685248)⟩
def C5f (t0 t1 t2 t3 t4:Nat):N5:=
 C1l (Nat.add (Nat.mod t0 2251799813685248) (Nat.mul 19 (Nat.div t4 2251799813685248)))
  (Nat.add (Nat.mod t1 2251799813685248) (Nat.div t0 2251799813685248))
  (Nat.add (Nat.mod t2 2251799813685248) (Nat.div t1 2251799813685248))
  (Nat.add (Nat.mod t3 2251799813685248) (Nat.div t2 2251799813685248))
  (Nat.add (Nat.mod t4 2251799813685248) (Nat.div t3 2251799813685248))
def B5d (a b c d e:Nat):Nat:=Nat.add (Nat.add (Nat.add (Nat.add a b) c) d) e
def Eg (x:Nat):Nat:=Nat.mod x 18446744073709551616
def D5x (a0 a1 a2 a3 a4 b0 b1 b2 b3 b4 n1 n2 n3 n4:Nat):N5:=
 C5f (B5d (Nat.mul a0 b0) (Nat.mul n1 b4) (Nat.mul n2 b3) (Nat.mul n3 b2) (Nat.mul n4 b1))
  (B5d (Nat.mul a0 b1) (Nat.mul a1 b0) (Nat.mul n2 b4) (Nat.mul n3 b3) (Nat.mul n4 b2))
  (B5d (Nat.mul a0 b2) (Nat.mul a1 b1) (Nat.mul a2 b0) (Nat.mul n3 b4) (Nat.mul n4 b3))
  (B5d (Nat.mul a0 b3) (Nat.mul a1 b2) (Nat.mul a2 b1) (Nat.mul a3 b0) (Nat.mul n4 b4))
  (B5d (Nat.mul a0 b4) (Nat.mul a1 b3) (Nat.mul a2 b2) (Nat.mul a3 b1) (Nat.mul a4 b0))
def Cp (x y:N5):N5:=
 D5x (Eg x.a) (Eg x.b) (Eg x.c) (Eg x.d) (Eg x.e) (Eg y.a) (Eg y.b) (Eg y.c) (Eg y.d) (Eg y.e)
  (Eg (Nat.mul 19 x.b)) (Eg (Nat.mul 19 x.c)) (Eg (Nat.mul 19 x.d)) (Eg (Nat.mul 19 x.e))
def sqG (a0 a1 a2 a3 a4 d0 d1 d2 d3 n3 n4:Nat):N5:=
 C5f (Nat.add (Nat.add (Nat.mul a0 a0) (Nat.mul d1 n4)) (Nat.mul d2 n3))
  (Nat.add (Nat.add (Nat.mul d0 a1) (Nat.mul d2 n4)) (Nat.mul a3 n3))
  (Nat.add (Nat.add (Nat.mul d0 a2) (Nat.mul a1 a1)) (Nat.mul d3 n4))
  (Nat.add (Nat.add (Nat.mul d0 a3) (Nat.mul d1 a2)) (Nat.mul a4 n4))
  (Nat.add (Nat.add (Nat.mul d0 a4) (Nat.mul d1 a3)) (Nat.mul a2 a2))
def sqN (x:N5):N5:=
 sqG (Eg x.a) (Eg x.b) (Eg x.c) (Eg x.d) (Eg x.e) (Eg (Nat.mul 2 x.a)) (Eg (Nat.mul 2 x.b)) (Eg (Nat.mul 2 x.c)) (Eg (Nat.mul 2 x.d)) (Eg (Nat.mul 19 x.d)) (Eg (Nat.mul 19 x.e))
def Mn (x y:N5):N5:=C1l (Nat.add x.a y.a) (Nat.add x.b y.b) (Nat.add x.c y.c) (Nat.add x.d y.d) (Nat.add x.e y.e)
def Sn (x y:N5):N5:=
 C1l (Nat.add x.a (Nat.sub 18455751272964292532 (Eg y.a))) (Nat.add x.b (Nat.sub 18455751272964292604 (Eg y.b))) (Nat.add x.c (Nat.sub 18455751272964292604 (Eg y.c))) (Nat.add x.d (Nat.sub 18455751272964292604 (Eg y.d))) (Nat.add x.e (Nat.sub 18455751272964292604 (Eg y.e)))
def Vc:Nat→N5→N5
 | 0,a=>a
 | q+1,a=>sqN (Vc q a)
def d2 (n:Nat):List UInt64:=[UInt64.ofNat (n / 18446744073709551616),UInt64.ofNat n]
theorem Q3 (n:Nat):(UInt64.ofNat n).toNat=n % 18446744073709551616:=UInt64.toNat_ofNat' ..
theorem Qy (a b:Nat):UInt64.ofNat a+UInt64.ofNat b=UInt64.ofNat (a+b):=by
 apply UInt64.toNat_inj.1;rw[UInt64.toNat_add,Q3,Q3,Q3];omega
theorem A0t (a b:Nat):UInt64.ofNat a*UInt64.ofNat b=UInt64.ofNat (a*b):=by
 apply UInt64.toNat_inj.1;rw[UInt64.toNat_mul,Q3,Q3,Q3];exact (Nat.mul_mod _ _ _).symm
theorem X6 (a:Nat):UInt64.ofNat (Eg a)=UInt64.ofNat a:=by
 apply UInt64.toNat_inj.1;rw[Q3,Q3];show a % 18446744073709551616 % 18446744073709551616=_;omega
theorem B5l (a:Nat):UInt64.ofNat a &&& (2251799813685247:UInt64)=UInt64.ofNat (a % 2251799813685248):=by
 apply UInt64.toNat_inj.1;rw[UInt64.toNat_and,Q3,Q3];rw[show (2251799813685247:UInt64).toNat=2 ^ 51-1 from rfl,Nat.and_two_pow_sub_one_eq_mod];omega
theorem C8e (a:Nat):UInt64.ofNat a >>> (51:UInt64)=UInt64.ofNat (a % 18446744073709551616 / 2251799813685248):=by
 apply UInt64.toNat_inj.1;rw[UInt64.toNat_shiftRight,Q3,Q3,show (51:UInt64).toNat % 64=51 from rfl,Nat.shiftRight_eq_div_pow];omega
theorem A9p (x y:Nat) (hx:x<18446744073709551616) (hy:y<18446744073709551616):Z2 (UInt64.ofNat x) (UInt64.ofNat y)=d2 (x*y):=by
 unfold Z2 A2u d2;rw[A0t,Q3,Q3,Nat.mod_eq_of_lt hx,Nat.mod_eq_of_lt hy]
theorem A5m (n x y:Nat) (hx:x<18446744073709551616) (hy:y<18446744073709551616):J7 (d2 n) (UInt64.ofNat x) (UInt64.ofNat y)=d2 (n+x*y):=by
 have e0:E9 (d2 n) 0=UInt64.ofNat (n / 18446744073709551616):=rfl;have e1:E9 (d2 n) 1=UInt64.ofNat n:=rfl;unfold J7;rw[e0,e1];unfold d2 Tk Vk A2u;have z:(0:UInt64)=UInt64.ofNat 0:=rfl;rw[A0t,Q3,Q3,Q3,Q3,Nat.mod_eq_of_lt hx,Nat.mod_eq_of_lt hy,z,Q3,Qy,Qy,Qy,Qy];generalize x*y=p;have:UInt64.ofNat (p / 18446744073709551616+n / 18446744073709551616+(p % 18446744073709551616+n % 18446744073709551616+0 % 18446744073709551616) / 18446744073709551616)=UInt64.ofNat ((n+p) / 18446744073709551616):=by congr 1;omega
 rw[this];congr 2;congr 1;omega
theorem C0c (n:Nat):over (d2 n)=UInt64.ofNat (n / 2251799813685248):=by
 have e0:E9 (d2 n) 0=UInt64.ofNat (n / 18446744073709551616):=rfl;have e1:E9 (d2 n) 1=UInt64.ofNat n:=rfl;unfold over;rw[e0,e1];apply UInt64.toNat_inj.1;rw[UInt64.toNat_or,UInt64.toNat_shiftLeft,UInt64.toNat_shiftRight,Q3,Q3,Q3,show (51:UInt64).toNat % 64=51 from rfl,show (13:UInt64).toNat % 64=13 from rfl,Nat.shiftRight_eq_div_pow,Nat.shiftLeft_eq];have e:n / 18446744073709551616 % 18446744073709551616*2 ^ 13 % 2 ^ 64=(n / 18446744073709551616 % 2251799813685248) <<< 13:=by rw[Nat.shiftLeft_eq];omega
 rw[e,←Nat.shiftLeft_add_eq_or_of_lt (by omega),Nat.shiftLeft_eq];omega
theorem C7c (n:Nat):E9 (d2 n) 1 &&& (2251799813685247:UInt64)=UInt64.ofNat (n % 2251799813685248):=B5l n
theorem Dn (a:Nat):19*UInt64.ofNat a=UInt64.ofNat (19*a):=A0t 19 a
theorem A1c (a:Nat):2*UInt64.ofNat a=UInt64.ofNat (2*a):=A0t 2 a
theorem A8h (x0 x1 x2 x3 x4:Nat):Ek [UInt64.ofNat x0,UInt64.ofNat x1,UInt64.ofNat x2,UInt64.ofNat x3,UInt64.ofNat x4]=u5 (C1l x0 x1 x2 x3 x4):=by
 show [(UInt64.ofNat x0 &&& (2251799813685247:UInt64))+19*(UInt64.ofNat x4 >>> (51:UInt64)),(UInt64.ofNat x1 &&& (2251799813685247:UInt64))+UInt64.ofNat x0 >>> (51:UInt64),(UInt64.ofNat x2 &&& (2251799813685247:UInt64))+UInt64.ofNat x1 >>> (51:UInt64),(UInt64.ofNat x3 &&& (2251799813685247:UInt64))+UInt64.ofNat x2 >>> (51:UInt64),(UInt64.ofNat x4 &&& (2251799813685247:UInt64))+UInt64.ofNat x3 >>> (51:UInt64)]=_;simp only[B5l,C8e,Dn,Qy];rfl
theorem B7g (t0 t1 t2 t3 t4:Nat):Lu (d2 t0) (d2 t1) (d2 t2) (d2 t3) (d2 t4)=u5 (C5f t0 t1 t2 t3 t4):=by
 unfold Lu B6j;simp only[C7c,C0c,Dn,Qy];rw[A8h];rfl
theorem Nl (a:Nat):Eg a<18446744073709551616:=Nat.mod_lt _ (by decide)
theorem Ds (x y:N5):C4 (u5 x) (u5 y)=u5 (Cp x y):=by
 obtain⟨a0,a1,a2,a3,a4⟩:=x;obtain⟨b0,b1,b2,b3,b4⟩:=y;have e0:E9 (u5 ⟨a0,a1,a2,a3,a4⟩) 0=UInt64.ofNat (Eg a0):=(X6 _).symm;have e1:E9 (u5 ⟨a0,a1,a2,a3,a4⟩) 1=UInt64.ofNat (Eg a1):=(X6 _).symm;have e2:E9 (u5 ⟨a0,a1,a2,a3,a4⟩) 2=UInt64.ofNat (Eg a2):=(X6 _).symm;have e3:E9 (u5 ⟨a0,a1,a2,a3,a4⟩) 3=UInt64.ofNat (Eg a3):=(X6 _).symm;have e4:E9 (u5 ⟨a0,a1,a2,a3,a4⟩) 4=UInt64.ofNat (Eg a4):=(X6 _).symm;have f0:E9 (u5 ⟨b0,b1,b2,b3,b4⟩) 0=UInt64.ofNat (Eg b0):=(X6 _).symm;have f1:E9 (u5 ⟨b0,b1,b2,b3,b4⟩) 1=UInt64.ofNat (Eg b1):=(X6 _).symm;have f2:E9 (u5 ⟨b0,b1,b2,b3,b4⟩) 2=UInt64.ofNat (Eg b2):=(X6 _).symm;have f3:E9 (u5 ⟨b0,b1,b2,b3,b4⟩) 3=UInt64.ofNat (Eg b3):=(X6 _).symm;have f4:E9 (u5 ⟨b0,b1,b2,b3,b4⟩) 4=UInt64.ofNat (Eg b4):=(X6 _).symm;have n1:19*UInt64.ofNat (Eg a1)=UInt64.ofNat (Eg (Nat.mul 19 a1)):=by rw[X6,X6];exact Dn _
 have n2:19*UInt64.ofNat (Eg a2)=UInt64.ofNat (Eg (Nat.mul 19 a2)):=by rw[X6,X6];exact Dn _
 have n3:19*UInt64.ofNat (Eg a3)=UInt64.ofNat (Eg (Nat.mul 19 a3)):=by rw[X6,X6];exact Dn _
 have n4:19*UInt64.ofNat (Eg a4)=UInt64.ofNat (Eg (Nat.mul 19 a4)):=by rw[X6,X6];exact Dn _
 unfold C4 Qz Rj Qs Qr Rk;rw[e0,e1,e2,e3,e4,f0,f1,f2,f3,f4,n1,n2,n3,n4];unfold Cp D5x;dsimp only;simp only[A9p _ _ (Nl _) (Nl _),A5m _ _ _ (Nl _) (Nl _)];exact B7g _ _ _ _ _
theorem A5l (x:N5):Mw (u5 x)=u5 (sqN x):=by
 obtain⟨a0,a1,a2,a3,a4⟩:=x;have e0:E9 (u5 ⟨a0,a1,a2,a3,a4⟩) 0=UInt64.ofNat (Eg a0):=(X6 _).symm;have e1:E9 (u5 ⟨a0,a1,a2,a3,a4⟩) 1=UInt64.ofNat (Eg a1):=(X6 _).symm;have e2:E9 (u5 ⟨a0,a1,a2,a3,a4⟩) 2=UInt64.ofNat (Eg a2):=(X6 _).symm;have e3:E9 (u5 ⟨a0,a1,a2,a3,a4⟩) 3=UInt64.ofNat (Eg a3):=(X6 _).symm;have e4:E9 (u5 ⟨a0,a1,a2,a3,a4⟩) 4=UInt64.ofNat (Eg a4):=(X6 _).symm;have n3:19*UInt64.ofNat (Eg a3)=UInt64.ofNat (Eg (Nat.mul 19 a3)):=by rw[X6,X6];exact Dn _
 have n4:19*UInt64.ofNat (Eg a4)=UInt64.ofNat (Eg (Nat.mul 19 a4)):=by rw[X6,X6];exact Dn _
 have m0:2*UInt64.ofNat (Eg a0)=UInt64.ofNat (Eg (Nat.mul 2 a0)):=by rw[X6,X6];exact A1c _
 have m1:2*UInt64.ofNat (Eg a1)=UInt64.ofNat (Eg (Nat.mul 2 a1)):=by rw[X6,X6];exact A1c _
 have m2:2*UInt64.ofNat (Eg a2)=UInt64.ofNat (Eg (Nat.mul 2 a2)):=by rw[X6,X6];exact A1c _
 have m3:2*UInt64.ofNat (Eg a3)=UInt64.ofNat (Eg (Nat.mul 2 a3)):=by rw[X6,X6];exact A1c _
 unfold Mw Yh Wu Yq Xy Yp;rw[e0,e1,e2,e3,e4,m0,m1,m2,m3,n3,n4];unfold sqN sqG;dsimp only;simp only[A9p _ _ (Nl _) (Nl _),A5m _ _ _ (Nl _) (Nl _)];exact B7g _ _ _ _ _
theorem A2b (x y:N5):C7 (u5 x) (u5 y)=u5 (Mn x y):=by
 obtain⟨a0,a1,a2,a3,a4⟩:=x;obtain⟨b0,b1,b2,b3,b4⟩:=y;have e:C6n (u5 ⟨a0,a1,a2,a3,a4⟩) (u5 ⟨b0,b1,b2,b3,b4⟩)=[UInt64.ofNat a0+UInt64.ofNat b0,UInt64.ofNat a1+UInt64.ofNat b1,UInt64.ofNat a2+UInt64.ofNat b2,UInt64.ofNat a3+UInt64.ofNat b3,UInt64.ofNat a4+UInt64.ofNat b4]:=rfl;unfold C7;rw[e];simp only[Qy];exact A8h _ _ _ _ _
theorem A1g (a b:Nat):UInt64.ofNat a+(9007199254740988-UInt64.ofNat b)=UInt64.ofNat (a+(18455751272964292604-Eg b)):=by
 apply UInt64.toNat_inj.1;rw[UInt64.toNat_add,UInt64.toNat_sub,Q3,Q3,Q3];have:(9007199254740988:UInt64).toNat=9007199254740988:=rfl;rw[this];show _=(a+(18455751272964292604-b % 18446744073709551616)) % 18446744073709551616;omega
theorem C2r (a b:Nat):UInt64.ofNat a+(9007199254740988-UInt64.ofNat b)-72=UInt64.ofNat (a+(18455751272964292532-Eg b)):=by
 apply UInt64.toNat_inj.1;rw[UInt64.toNat_sub,UInt64.toNat_add,UInt64.toNat_sub,Q3,Q3,Q3];have:(9007199254740988:UInt64).toNat=9007199254740988:=rfl;rw[this];have:(72:UInt64).toNat=72:=rfl;rw[this];show _=(a+(18455751272964292532-b % 18446744073709551616)) % 18446744073709551616;omega
theorem Qp (x y:N5):E3 (u5 x) (u5 y)=u5 (Sn x y):=by
 obtain⟨a0,a1,a2,a3,a4⟩:=x;obtain⟨b0,b1,b2,b3,b4⟩:=y;have e:B5p (u5 ⟨a0,a1,a2,a3,a4⟩) (u5 ⟨b0,b1,b2,b3,b4⟩)=[UInt64.ofNat a0+(9007199254740988-UInt64.ofNat b0)-72,UInt64.ofNat a1+(9007199254740988-UInt64.ofNat b1),UInt64.ofNat a2+(9007199254740988-UInt64.ofNat b2),UInt64.ofNat a3+(9007199254740988-UInt64.ofNat b3),UInt64.ofNat a4+(9007199254740988-UInt64.ofNat b4)]:=rfl;unfold E3;rw[e];rw[C2r,A1g,A1g,A1g,A1g];exact A8h _ _ _ _ _
theorem Kw (n:Nat) (x:N5):Z6 n (u5 x)=u5 (Vc n x):=by
 induction n with
 | zero=>rfl
 | succ n ih=>show Mw (Z6 n (u5 x))=_;rw[ih,A5l];rfl
def A9s (a:N5):N5:=Cp (Vc 2 (sqN a)) a
def Vx (a:N5):N5:=Cp (A9s a) (sqN a)
def n5 (a:N5):N5:=Cp (sqN (Vx a)) (A9s a)
def n10 (a:N5):N5:=Cp (Vc 5 (n5 a)) (n5 a)
def n20 (a:N5):N5:=Cp (Vc 10 (n10 a)) (n10 a)
def n50 (a:N5):N5:=Cp (Vc 10 (Cp (Vc 20 (n20 a)) (n20 a))) (n10 a)
def C1q (a:N5):N5:=Cp (Vc 50 (n50 a)) (n50 a)
def A9f (a:N5):N5:=Cp (Vc 50 (Cp (Vc 100 (C1q a)) (C1q a))) (n50 a)
def B3z (a:N5):N5:=Cp (Vc 5 (A9f a)) (Vx a)
theorem A9y (a:N5):Fg (u5 a)=u5 (A9s a):=by unfold Fg A9s;simp only[A5l,Kw,Ds]
theorem A0s (a:N5):Dv (u5 a)=u5 (Vx a):=by unfold Dv Vx;simp only[A9y,A5l,Kw,Ds]
theorem D9u (a:N5):f5 (u5 a)=u5 (n5 a):=by unfold f5 n5;simp only[A9y,A0s,A5l,Kw,Ds]
theorem C3w (a:N5):Ut (u5 a)=u5 (n10 a):=by unfold Ut n10;simp only[D9u,Kw,Ds]
theorem D6u (a:N5):Mt (u5 a)=u5 (n20 a):=by unfold Mt n20;simp only[C3w,Kw,Ds]
theorem C4g (a:N5):f50 (u5 a)=u5 (n50 a):=by unfold f50 n50;simp only[C3w,D6u,Kw,Ds]
theorem C5m (a:N5):Hb (u5 a)=u5 (C1q a):=by unfold Hb C1q;simp only[C4g,Kw,Ds]
theorem B0a (a:N5):Cz (u5 a)=u5 (A9f a):=by unfold Cz A9f;simp only[C4g,C5m,Kw,Ds]
theorem B8b (a:N5):Z1 (u5 a)=u5 (B3z a):=by unfold Z1 B3z;simp only[B0a,A0s,Kw,Ds]
structure PN where
 x:N5
 y:N5
 z:N5
 t:N5
def uP (p:PN):Pn:=⟨u5 p.x,u5 p.y,u5 p.z,u5 p.t⟩
def Xt (p q:PN) (k:N5):PN:=
 let a:=Cp (Sn p.y p.x) (Sn q.y q.x)
 let b:=Cp (Mn p.y p.x) (Mn q.y q.x)
 let c:=Cp (Cp p.t k) q.t
 let d:=Cp p.z q.z
 let d2:=Mn d d
 let e:=Sn b a
 let f:=Sn d2 c
 let g:=Mn d2 c
 let h:=Mn b a
 ⟨Cp e f,Cp g h,Cp f g,Cp e h⟩
def dbN (p:PN):PN:=
 let a:=Cp p.x p.x
 let b:=Cp p.y p.y
 let c:=Cp p.z p.z
 let h:=Mn a b
 let s:=Mn p.x p.y
 let e:=Sn h (Cp s s)
 let g:=Sn a b
 let f:=Mn (Mn c c) g
 ⟨Cp e f,Cp g h,Cp f g,Cp e h⟩
theorem Sj (p q:PN) (k:N5):T6 (uP p) (uP q) (u5 k)=uP (Xt p q k):=by
 unfold T6 uP Xt;simp only[Ds,A2b,Qp]
theorem B4u (p:PN):Ic (uP p)=uP (dbN p):=by
 unfold Ic uP dbN;simp only[Ds,A2b,Qp]
theorem B7e:(([]:List UInt64)==[])=true:=rfl
def z5N (x:N5):Bool:=(Eg x.a).beq 0&&((Eg x.b).beq 0&&((Eg x.c).beq 0&&((Eg x.d).beq 0&&(Eg x.e).beq 0)))
def zPN (p:PN):Bool:=z5N p.x&&(z5N p.y&&(z5N p.z&&z5N p.t))
theorem C1t (a:Nat):(UInt64.ofNat a==0)=(Eg a).beq 0:=by
 rw[Bool.eq_iff_iff,beq_iff_eq,Nat.beq_eq,←UInt64.toNat_inj,Q3];rfl
theorem C2q (x:N5):(u5 x==I3 5)=z5N x:=by
 show ([UInt64.ofNat x.a,UInt64.ofNat x.b,UInt64.ofNat x.c,UInt64.ofNat x.d,UInt64.ofNat x.e]==[0,0,0,0,0])=_;simp only[List.cons_beq_cons,B7e,C1t,Bool.and_true];rfl
theorem E1r (p:PN):((uP p).row==I3 20)=zPN p:=by
 have e:∀(a b c d:List UInt64),a.length=5→b.length=5→c.length=5→d.length=5→(Mv a b c d==I3 20)=((a==I3 5)&&((b==I3 5)&&((c==I3 5)&&(d==I3 5)))):=by
  intro a b c d ha hb hc hd;match a,b,c,d,ha,hb,hc,hd with
  | [a0,a1,a2,a3,a4],[b0,b1,b2,b3,b4],[c0,c1,c2,c3,c4],[d0,d1,d2,d3,d4],_,_,_,_=>
   show ([a0,a1,a2,a3,a4,b0,b1,b2,b3,b4,c0,c1,c2,c3,c4,d0,d1,d2,d3,d4]==[0,0,0,0,0,0,0,0,0,0,0,0,0,0,0,0,0,0,0,0])=(([a0,a1,a2,a3,a4]==[0,0,0,0,0])&&(([b0,b1,b2,b3,b4]==[0,0,0,0,0])&&(([c0,c1,c2,c3,c4]==[0,0,0,0,0])&&([d0,d1,d2,d3,d4]==[0,0,0,0,0]))));simp only[List.cons_beq_cons,B7e,Bool.true_and,Bool.and_true,Bool.and_assoc]
 unfold Pn.row uP zPN;rw[e _ _ _ _ rfl rfl rfl rfl,C2q,C2q,C2q,C2q]
def Yf:N5:=⟨1,0,0,0,0⟩
def Fm:N5:=⟨0,0,0,0,0⟩
theorem A9g:D9 1=u5 Yf:=by decide +kernel
theorem A7v:D9 0=u5 Fm:=by decide +kernel
def Xo (x y:N5):PN:=⟨x,y,Yf,Cp x y⟩
theorem Pq (x y:N5):T8 (u5 x) (u5 y)=uP (Xo x y):=by unfold T8 uP Xo;simp only[Ds,A9g]
def Ge (p:PN):PN:=if zPN p then Xo Fm Yf else p
theorem Jt (p:PN):D8 (uP p)=uP (Ge p):=by
 unfold D8 Ge;rw[E1r];split
 ·rw[A9g,A7v,Pq]
 ·rfl
def C8d (p:PN):PN:=⟨Sn Fm (Ge p).x,(Ge p).y,(Ge p).z,Sn Fm (Ge p).t⟩
theorem C5v (p:PN):Jp (uP p)=uP (C8d p):=by
 unfold Jp C8d;rw[Jt,A7v];unfold uP;simp only[Qp]
def B4w (k:N5) (p q:PN):PN:=Xt (Ge p) (Ge q) k
theorem C7l {k:N5} (hk:I9=u5 k) (p q:PN):A1u (uP p) (uP q)=uP (B4w k p q):=by
 unfold A1u B4w;rw[Jt,Jt,hk,Sj]
def C4v (x y:N5):List UInt8:=if Wx (u5 x) then (N9 (u5 y)).set 31 (g8 (N9 (u5 y)) 31 ||| 128) else N9 (u5 y)
def Ws (p:PN):List UInt8:=C4v (Cp (Ge p).x (B3z (Ge p).z)) (Cp (Ge p).y (B3z (Ge p).z))
theorem A2k (p:PN):I1 (uP p)=Ws p:=by
 unfold I1 Ws A3a C4v;rw[Jt];unfold uP;simp only[B8b,Ds]
def B8v:Nat→PN→PN
 | 0,p=>p
 | q+1,p=>dbN (B8v q p)
theorem C8g (q:Nat) (p:PN):Bn q (uP p)=uP (B8v q p):=by
 induction q with
 | zero=>rfl
 | succ q ih=>show Ic (Bn q (uP p))=_;rw[ih,B4u];rfl
def B0n (k:N5) (p:PN):Nat→PN
 | 0=>Xo Fm Yf
 | 1=>Ge p
 | i+2=>Xt (B0n k p (i+1)) (Ge p) k
theorem Qo:D8 Bg=uP (Xo Fm Yf):=by
 have:Bg=uP ⟨Fm,Fm,Fm,Fm⟩:=rfl;rw[this,Jt];rfl
theorem A7s (k:N5) (p:PN):∀i,Bo (uP p) (u5 k) i=uP (B0n k p i)
 | 0=>Qo
 | 1=>Jt p
 | i+2=>by show T6 (Bo (uP p) (u5 k) (i+1)) (D8 (uP p)) (u5 k)=_;rw[A7s k p (i+1),Jt,Sj];rfl
def A7d (k:N5) (b:PN) (n:List UInt8) (p:PN) (m:List UInt8):Nat→PN
 | 0=>Xo Fm Yf
 | i+1=>Xt (Xt (B8v 4 (A7d k b n p m i)) (B0n k b (dg n (63-i))) k) (B0n k p (dg m (63-i))) k
theorem B0h {k:N5} {b:PN} (hk:I9=u5 k) (hb:E4=uP b) (n:List UInt8) (p:PN) (m:List UInt8):∀i,Aw n (uP p) m i=uP (A7d k b n p m i)
 | 0=>by
  show O9 (M5 E4 I9) 0=_;rw[Tp (by decide)];exact Qo
 | i+1=>by
  show T6 (T6 (Bn 4 (Aw n (uP p) m i)) (O9 (M5 E4 I9) (dg n (63-i))) I9) (O9 (M5 (uP p) I9) (dg m (63-i))) I9=_;rw[Tp (A6b _ _),Tp (A6b _ _),B0h hk hb n p m i,hk,hb,A7s,A7s,C8g,Sj,Sj];rfl
def A9o (k:N5):Nat→PN→PN
 | 0,p=>p
 | q+1,p=>B4w k (A9o k q p) (A9o k q p)
theorem B4t {k:N5} (hk:I9=u5 k) (p:PN):∀q,Km q (uP p)=uP (A9o k q p)
 | 0=>rfl
 | q+1=>by show A1u (Km q (uP p)) (Km q (uP p))=_;rw[B4t hk p q,C7l hk];rfl
def A7o (k:N5) (p:PN):Bool:=Ws (A9o k 3 p)==h1 1
theorem B6c {k:N5} (hk:I9=u5 k) (p:PN):Nt (uP p)=A7o k p:=by unfold Nt A7o;rw[B4t hk,A2k]
def A9b (l:List PN) (i:Nat):PN:=l.getD i ⟨Fm,Fm,Fm,Fm⟩
def Ol (k:N5) (l:List PN) (n:List UInt8) (s:Nat) (r:PN):Nat→PN
 | 0=>r
 | i+1=>if B3l n i s then Xt (Ol k l n s r i) (A9b l i) k else Ol k l n s r i
def Sp (k:N5) (l:List PN) (n:List UInt8):Nat→PN
 | 0=>Xo Fm Yf
 | m+1=>Ol k l n (7-m) (dbN (Sp k l n m)) 32
theorem Uc {k:N5} {l:List PN} (hk:I9=u5 k) (hl:∀i,i<32→Kl i=uP (A9b l i)) (n:List UInt8) (s:Nat) (r:PN):∀i,i≤32→Bm n s (uP r) i=uP (Ol k l n s r i)
 | 0,_=>rfl
 | i+1,hi=>by
  unfold Bm Ol;split
  ·rw[Uc hk hl n s r i (by omega),hl i (by omega),hk,Sj]
  ·exact Uc hk hl n s r i (by omega)
theorem A3q {k:N5} {l:List PN} (hk:I9=u5 k) (hl:∀i,i<32→Kl i=uP (A9b l i)) (n:List UInt8):∀m,Ae n m=uP (Sp k l n m)
 | 0=>Qo
 | m+1=>by
  show Bm n (7-m) (Ic (Ae n m)) 32=_;rw[A3q hk hl n m,B4u,Uc hk hl _ _ _ _ (Nat.le_refl _)];rfl
def rWN (u v:N5):N5:=Cp u (B3z v)
def B4h (u v:N5):N5:=Cp (Vc 2 (A9f (rWN u v))) (sqN (rWN u v))
def B0j (x w:N5):Bool:=N9 (u5 (Cp x x))==N9 (u5 w)
def B8w:N5:=⟨1718705420411056,234908883556509,2233514472574048,2117202627021982,765476049583133⟩
theorem C3c:Dy=u5 B8w:=rfl
def C0v (u v:N5):N5:=if B0j (B4h u v) (rWN u v) then B4h u v else Cp (B4h u v) B8w
def B5q (x:N5):N5:=if Wx (u5 x) then Sn Fm x else x
def rBN (u v:N5):Bool:=!(N9 (u5 v)==z8 32)&&B0j (C0v u v) (rWN u v)
def rLN (u v:N5):N5:=if rBN u v then B5q (C0v u v) else Fm
theorem A1r (u v:N5):Ad (u5 u) (u5 v)=u5 (rWN u v):=by unfold Ad rWN;simp only[B8b,Ds]
theorem B6h (u v:N5):Be (u5 u) (u5 v)=u5 (B4h u v):=by unfold Be B4h;simp only[A1r,B0a,Kw,A5l,Ds]
theorem B8j (x w:N5):A8m (u5 x) (u5 w)=B0j x w:=by unfold A8m B0j;rw[Ds]
theorem A3v (u v:N5):Jo (u5 u) (u5 v)=u5 (C0v u v):=by
 unfold Jo C0v;rw[B6h,A1r,B8j,C3c,Ds];split<;>rfl
theorem C5h (x:N5):A2g (u5 x)=u5 (B5q x):=by
 unfold A2g B5q;have:I3 5=u5 Fm:=rfl;rw[this,Qp];split<;>rfl
theorem B0g (u v:N5):Cq (u5 u) (u5 v)=rBN u v:=by unfold Cq rBN;rw[A3v,A1r,B8j]
theorem C1k (u v:N5):X7 (u5 u) (u5 v)=u5 (rLN u v):=by
 unfold X7 rLN;rw[B0g,A3v,C5h];split<;>rfl
def B4f (kd y:N5):N5:=rLN (Sn (Cp y y) Yf) (Mn (Cp (Cp y y) kd) Yf)
def A9m (kd y:N5):Bool:=rBN (Sn (Cp y y) Yf) (Mn (Cp (Cp y y) kd) Yf)
theorem C6z {b:List UInt8} {kd y:N5} (hd:Ei=u5 kd) (hy:Tx b=u5 y):Tt b=u5 (B4f kd y):=by
 unfold Tt B4f A4h A3o;rw[hy,hd,A9g];simp only[Ds,Qp,A2b,C1k]
theorem C0s {b:List UInt8} {kd y:N5} (hd:Ei=u5 kd) (hy:Tx b=u5 y):Cq (A4h b) (A3o b)=A9m kd y:=by
 unfold A9m A4h A3o;rw[hy,hd,A9g];simp only[Ds,Qp,A2b,B0g]
theorem C1x {b:List UInt8} {kd y x:N5} (hd:Ei=u5 kd) (hy:Tx b=u5 y) (hx:Tt b=u5 x) (h1:Kk (F0 b)=true) (h2:A9m kd y=true) (h3:(Jk b&&N9 (u5 x)==z8 32)=false):Gp b=true:=by
 unfold Gp;rw[C0s hd hy,h1,h2,hx,h3];rfl
theorem C6g {b:List UInt8} {y x:N5} (ho:Gp b=true) (hy:Tx b=u5 y) (hx:Tt b=u5 x):Cl b=uP (Xo (if Jk b then Sn Fm x else x) y):=by
 unfold Cl;rw[if_pos ho,hx,hy,A7v,Qp];split<;>exact Pq _ _
section
def eq5 (x y:N5):Bool:=Nat.beq x.a y.a&&(Nat.beq x.b y.b&&(Nat.beq x.c y.c&&(Nat.beq x.d y.d&&Nat.beq x.e y.e)))
theorem Ts {x y:N5} (h:eq5 x y=true):x=y:=by
 obtain⟨a,b,c,d,e⟩:=x;obtain⟨a',b',c',d',e'⟩:=y;simp only[eq5,Bool.and_eq_true,Nat.beq_eq]at h;obtain⟨rfl,rfl,rfl,rfl,rfl⟩:=h;rfl
def eqP (p q:PN):Bool:=eq5 p.x q.x&&(eq5 p.y q.y&&(eq5 p.z q.z&&eq5 p.t q.t))
theorem A8b {p q:PN} (h:eqP p q=true):p=q:=by
 obtain⟨a,b,c,d⟩:=p;obtain⟨a',b',c',d'⟩:=q;simp only[eqP,Bool.and_eq_true]at h;rw[Ts h.1,Ts h.2.1,Ts h.2.2.1,Ts h.2.2.2]
set_option maxRecDepth 100000
set_option maxHeartbeats 0
def C5x:N5:=⟨929955233495203,466365720129213,1662059464998953,2033849074728123,1442794654840575⟩
def A0a:N5:=⟨1859910466990425,932731440258426,1072319116312658,1815898335770999,633789495995903⟩
def Xe:PN:=⟨⟨1738742601995546,1146398526822698,2070867633025821,562264141797630,587772402128613⟩,⟨1801439850948184,1351079888211148,450359962737049,900719925474099,1801439850948198⟩,⟨1,0,0,0,0⟩,⟨1841354044333475,16398895984059,755974180946558,900171276175154,1821297809914039⟩⟩
theorem C4b:Ei=u5 C5x:=by decide +kernel
theorem A7w:I9=u5 A0a:=by decide +kernel
theorem C1y:C6 Ht=u5 Xe.x:=by decide +kernel
theorem C0j:C6 Ho=u5 Xe.y:=by decide +kernel
theorem C0z:eq5 (Cp Xe.x Xe.y) Xe.t=true:=by decide +kernel
theorem C6w:E4=uP Xe:=by
 show T8 (C6 Ht) (C6 Ho)=_;rw[C1y,C0j,Pq];unfold Xo;rw[Ts C0z];rfl
def A4e (row:List UInt8) (k:Nat):UInt8:=Py (g8 row (2*k)) <<< 4 ||| Py (g8 row (2*k+1))
theorem B0s (l:List UInt8) (n j:Nat):g8 (l.drop n) j=g8 l (n+j):=by
 unfold g8;rw[List.getD_eq_getElem?_getD,List.getD_eq_getElem?_getD,List.getElem?_drop]
theorem B1d (i:Nat):A9j i=Ie (A4e (T5.drop (128*i))) 64 64:=by
 unfold A9j;have:Cn i=A4e (T5.drop (128*i)):=by
  funext k;unfold Cn A4e;rw[B0s,B0s];rfl
 rw[this]
noncomputable def Y0 (i:Nat) (p:PN):Bool:=C6 (H6 (Ie (A4e (T5.drop (128*i))) 64 64) 0)==u5 p.x&&(C6 (H6 (Ie (A4e (T5.drop (128*i))) 64 64) 32)==u5 p.y&&eqP (Xo p.x p.y) p)
theorem T9 {i:Nat} {p:PN} (h:Y0 i p=true):Kl i=uP p:=by
 unfold Y0 at h;simp only[Bool.and_eq_true,beq_iff_eq]at h;unfold Kl;rw[B1d,h.1,h.2.1,Pq,A8b h.2.2]
def kL0:PN:=⟨⟨1738742601995546,1146398526822698,2070867633025821,562264141797630,587772402128613⟩,⟨1801439850948184,1351079888211148,450359962737049,900719925474099,1801439850948198⟩,⟨1,0,0,0,0⟩,⟨1841354044333475,16398895984059,755974180946558,900171276175154,1821297809914039⟩⟩
def kL1:PN:=⟨⟨207657587877206,2100806663644183,634766761317859,1794349103177875,1662326270124510⟩,⟨1161296182310599,941340786753986,2054541528034550,348227273872704,269755449941776⟩,⟨1,0,0,0,0⟩,⟨956558613127806,218246011415390,1471725144979126,911638385797892,1757616091032277⟩⟩
def kL2:PN:=⟨⟨1521219502450021,1846410879841235,34313878798212,10546997869797,1652014780966119⟩,⟨1658952464264246,301281990073328,1421351965663984,1976190811556149,784992082977218⟩,⟨1,0,0,0,0⟩,⟨892904545274529,1276862129681126,2227823945098524,1198975692454157,531459573462592⟩⟩
def kL3:PN:=⟨⟨227770048461431,487879623988285,1417664382069336,21120743092234,192648498818915⟩,⟨489485269993669,31434140373030,662742595234372,520860463613287,581679651492685⟩,⟨1,0,0,0,0⟩,⟨440709916510127,606245067725176,575712091139983,1665763122282094,1396451099334619⟩⟩
def kL4:PN:=⟨⟨2137057258114235,578737412616802,222102366986352,1234677837468596,1356664587499029⟩,⟨1722913527544090,2088871461428873,1128366041178413,803942221589082,1922039712175331⟩,⟨1,0,0,0,0⟩,⟨643056839880049,523898651151534,204380683349760,1233102105443002,2156664000083962⟩⟩
def kL5:PN:=⟨⟨1285304317579493,539645416220191,1912192162872302,1488507247591807,271320221614130⟩,⟨78734827152218,1357852017365999,290905538263157,908753962904692,1078524239176568⟩,⟨1,0,0,0,0⟩,⟨1377163577851704,1450974270990480,1438768082383222,73739011122910,715982777037845⟩⟩
def kL6:PN:=⟨⟨2139631458254162,114745178815772,1087650998417340,1304905119131584,1454119089317820⟩,⟨1848586308489622,611786136704735,745684036015187,324537442443163,1422099643653513⟩,⟨1,0,0,0,0⟩,⟨289958792114194,1718243155014068,618410686050882,2148570867678717,2200768563603231⟩⟩
def kL7:PN:=⟨⟨54901458865636,727536360848802,1177631862964415,1689752924059193,2003135700883297⟩,⟨373003406320657,975674768844653,407736244583094,1999031378370391,1009852647415928⟩,⟨1,0,0,0,0⟩,⟨1775725816775503,1049202381591688,1875336355828115,1273325138276258,1490320459503170⟩⟩
def kL8:PN:=⟨⟨962690963841538,2210719638316993,706068330177389,1384191282407386,1726421572252383⟩,⟨1964103625364243,307116021699043,120882883216088,20816463754899,55369446368493⟩,⟨1,0,0,0,0⟩,⟨1568907369646169,514127314339263,40774287502072,1976251032040224,1733588893334842⟩⟩
def kL9:PN:=⟨⟨1071545802964639,1907633890512027,1590806793797968,801793450737153,552650580738272⟩,⟨147714283167257,991334929770036,740594144646985,1359930762689594,2104011130007174⟩,⟨1,0,0,0,0⟩,⟨1753093361894213,1521233125158248,1386128832987038,1088053247760158,193516695534830⟩⟩
def D1d:PN:=⟨⟨513161589821684,135189712591322,268115112334192,732346932090735,1698600094179178⟩,⟨1926627679356154,546033803356952,1665378458738264,1140574075214145,1041362083641741⟩,⟨1,0,0,0,0⟩,⟨1353416909210792,1517015454331480,809582929435518,2005509998263633,1154861397913715⟩⟩
def D4p:PN:=⟨⟨1739414694272229,1521928877555375,1503334770669637,763386956585108,1862129073046365⟩,⟨1268802689912462,967753215362474,632928647924378,938581088869778,1093383925776355⟩,⟨1,0,0,0,0⟩,⟨1439619040869311,122358970891288,2003741039041763,1571825034906733,1553939020907850⟩⟩
def D0x:PN:=⟨⟨1228065289500112,1995656439401154,747490468072570,1771782479153808,1441803220130225⟩,⟨1133256506751681,1971401122869232,364740748818945,274858525947676,944245750712036⟩,⟨1,0,0,0,0⟩,⟨969799468763409,758675615912443,164497183604933,410658007103705,1365606147138959⟩⟩
def D0u:PN:=⟨⟨2050219849394447,2136640035013897,682111103158185,1698971002258475,442296111034018⟩,⟨558048773939678,897533695604502,1035891336244684,1945051063646027,220875155027932⟩,⟨1,0,0,0,0⟩,⟨136528770899845,637133720221738,1127633800314291,1677182430025837,1482130520813037⟩⟩
def D1z:PN:=⟨⟨513905658590587,680817969573829,1150970882872061,354648524841429,1182660725187364⟩,⟨1687245214141198,1499423053851412,1198492387236350,1278757245406394,1918084130941870⟩,⟨1,0,0,0,0⟩,⟨13131300766877,2018180793845027,437449436518264,116732650814892,1368575053372683⟩⟩
def D7e:PN:=⟨⟨124475054908452,1906983202879951,611701698187204,1873527664260246,1365903236220276⟩,⟨1978406422605413,1915091176750658,961916202316503,396934785157585,866421071701821⟩,⟨1,0,0,0,0⟩,⟨417773349695347,1654602006188621,985389090556103,1189633363629426,288170139646185⟩⟩
def D4d:PN:=⟨⟨78814272546852,343446598238096,1469662686845463,446722075312752,1339733442806879⟩,⟨770831939905131,1066752177064823,855905013023480,1194941381303059,1674322643330780⟩,⟨1,0,0,0,0⟩,⟨2025065385374602,84441031851324,1769310306558354,26295680040963,99051874860870⟩⟩
def D4q:PN:=⟨⟨2248752024183766,708723593180029,1256489519620460,1977762733290583,2173540277402287⟩,⟨356808580336773,889637948668713,2118215992267087,2196570670553569,497367236949540⟩,⟨1,0,0,0,0⟩,⟨637585733359542,1435081831225848,1456442193699608,1717437606507251,1447466321451996⟩⟩
def D0m:PN:=⟨⟨2102370904129425,9421038388327,922877803622304,1730456536722459,762334075187381⟩,⟨427580487847279,1800861300174619,848721725908694,1905002686634420,2174839152969707⟩,⟨1,0,0,0,0⟩,⟨268052600032300,1676250763249512,1344774212489870,1877856504985088,1551852259475401⟩⟩
def D0v:PN:=⟨⟨73949236156954,243328099540869,285103069684975,535059367582198,507523117579041⟩,⟨81762443123683,437772300968419,104708665526234,1600664443758511,2153009907310332⟩,⟨1,0,0,0,0⟩,⟨525185820960592,2109162826897277,1727597431782170,94579111876036,1943291465670801⟩⟩
def D4f:PN:=⟨⟨1007523394043953,877179782120715,750791257494571,1684193508924439,1481971162173362⟩,⟨892412035198752,724888969399762,189791939055799,650037373814668,58891993572333⟩,⟨1,0,0,0,0⟩,⟨2012424166711840,1051009010171064,985378134251402,340978745693086,76576796701879⟩⟩
def D6k:PN:=⟨⟨1221600705668234,422433434344282,1165451223563677,146148415932141,2233882774218833⟩,⟨27130515852506,1042767501773405,1627152082831711,2158630032433998,279351529642523⟩,⟨1,0,0,0,0⟩,⟨399543236321792,304278115101828,1696822803913734,1638181959782862,1187398200262185⟩⟩
def D1j:PN:=⟨⟨1707106071538538,1034947591101305,1883622717070250,2247368448221425,79795392053140⟩,⟨1911252298510640,413658976450780,1847058117559766,170234544819720,1035923066070357⟩,⟨1,0,0,0,0⟩,⟨1620168465800920,853903694194838,1629795986498023,449057437180843,773788728556441⟩⟩
def D6e:PN:=⟨⟨705317732516645,1259080967901750,110596001674658,152606910492821,257476921021274⟩,⟨2000400530866971,1099125665712498,1961944974262476,155981950177417,1046917659734111⟩,⟨1,0,0,0,0⟩,⟨730820343861142,1746061691430809,1882659248310344,918803715970310,1070778979244388⟩⟩
def D1v:PN:=⟨⟨798540852548237,1186388878089071,554557418141563,2038592377592718,488711206961541⟩,⟨833812069173299,646939731425630,1538221673810424,2137163637965756,1721356815521377⟩,⟨1,0,0,0,0⟩,⟨76009751102151,1911895294413367,1262509771121608,1445197895593765,460973337299855⟩⟩
def D5o:PN:=⟨⟨54500732029931,1229228649591394,1395999898189729,1718070411837384,1664301080442019⟩,⟨1903443165125547,559438718436641,993492825524625,534768921454925,1413903496556256⟩,⟨1,0,0,0,0⟩,⟨120803451939400,1228462511466555,1825422928562560,2073882328972608,1338393801812170⟩⟩
def D2r:PN:=⟨⟨2009719025433307,1338026402858380,368645885213984,1305913578656784,900000752165226⟩,⟨901384702181433,618421315369192,1461922630708682,1786955284772872,769606372041141⟩,⟨1,0,0,0,0⟩,⟨2237692444171697,2144656409190513,1435531634016049,1875943125805625,1458226165828182⟩⟩
def D2l:PN:=⟨⟨1290284552533580,149109026735730,152217355613238,1936628254954832,289514889573986⟩,⟨545116827004962,24791008572662,666030275103494,2077271970883202,731991509874304⟩,⟨1,0,0,0,0⟩,⟨682751199693311,2090280524683502,1447319815966402,753208601256438,2019644203483639⟩⟩
def D2b:PN:=⟨⟨66253276699711,1252511340070009,2001984381343139,1811095600397663,2073215811985677⟩,⟨1623460295322413,1593143032869612,1227910477134078,174031738331835,1854653122047196⟩,⟨1,0,0,0,0⟩,⟨378835871973892,862775089586864,2213372231758376,1367038889672674,1837642890635372⟩⟩
def D5b:PN:=⟨⟨855109427260935,1192666648398113,1070509169023896,49743400943463,2059455722217761⟩,⟨1868326402194645,1731588568080711,734486077860206,1792565842527341,1694206596449169⟩,⟨1,0,0,0,0⟩,⟨1030568103689263,1717414762294505,1289812983312952,428593515366431,1052052483814347⟩⟩
def D6h:PN:=⟨⟨1078783740036999,198946038155516,1242334275692922,1915693194367353,716690677826317⟩,⟨1158255922756604,2050076295205690,816279270940781,485560714163174,1498485971338264⟩,⟨1,0,0,0,0⟩,⟨949271686208484,1835219553732856,1146775173265892,2161931743141499,1913301798815708⟩⟩
def D1o:PN:=⟨⟨302555565364767,1820588068919652,772267205884354,1865066538047563,1551475371085944⟩,⟨1996585736328222,70826822300604,211627457424574,562895043924503,1826585557779011⟩,⟨1,0,0,0,0⟩,⟨338531462563851,1655232836796258,315301918780359,145172540828775,2195524900867729⟩⟩
theorem E2e:Y0 0 kL0=true:=by decide +kernel
theorem D9w:Y0 1 kL1=true:=by decide +kernel
theorem E1v:Y0 2 kL2=true:=by decide +kernel
theorem E1k:Y0 3 kL3=true:=by decide +kernel
theorem E0h:Y0 4 kL4=true:=by decide +kernel
theorem E1n:Y0 5 kL5=true:=by decide +kernel
theorem E1c:Y0 6 kL6=true:=by decide +kernel
theorem E0q:Y0 7 kL7=true:=by decide +kernel
theorem E1x:Y0 8 kL8=true:=by decide +kernel
theorem D9y:Y0 9 kL9=true:=by decide +kernel
theorem D5t:Y0 10 D1d=true:=by decide +kernel
theorem D3d:Y0 11 D4p=true:=by decide +kernel
theorem D6j:Y0 12 D0x=true:=by decide +kernel
theorem D4u:Y0 13 D0u=true:=by decide +kernel
theorem D3i:Y0 14 D1z=true:=by decide +kernel
theorem D1s:Y0 15 D7e=true:=by decide +kernel
theorem D2i:Y0 16 D4d=true:=by decide +kernel
theorem D2n:Y0 17 D4q=true:=by decide +kernel
theorem D5q:Y0 18 D0m=true:=by decide +kernel
theorem D0p:Y0 19 D0v=true:=by decide +kernel
theorem D0s:Y0 20 D4f=true:=by decide +kernel
theorem D6b:Y0 21 D6k=true:=by decide +kernel
theorem D6w:Y0 22 D1j=true:=by decide +kernel
theorem D0o:Y0 23 D6e=true:=by decide +kernel
theorem D5m:Y0 24 D1v=true:=by decide +kernel
theorem D1e:Y0 25 D5o=true:=by decide +kernel
theorem D6x:Y0 26 D2r=true:=by decide +kernel
theorem D5w:Y0 27 D2l=true:=by decide +kernel
theorem D3x:Y0 28 D2b=true:=by decide +kernel
theorem D2z:Y0 29 D5b=true:=by decide +kernel
theorem D5y:Y0 30 D6h=true:=by decide +kernel
theorem D1p:Y0 31 D1o=true:=by decide +kernel
def C0x:List PN:=[kL0,kL1,kL2,kL3,kL4,kL5,kL6,kL7,kL8,kL9,D1d,D4p,D0x,D0u,D1z,D7e,D4d,D4q,D0m,D0v,D4f,D6k,D1j,D6e,D1v,D5o,D2r,D2l,D2b,D5b,D6h,D1o]
theorem D6p:∀i,i<32→Kl i=uP (A9b C0x i):=by
 intro i hi;match i,hi with
 | 0,_=>exact T9 E2e
 | 1,_=>exact T9 D9w
 | 2,_=>exact T9 E1v
 | 3,_=>exact T9 E1k
 | 4,_=>exact T9 E0h
 | 5,_=>exact T9 E1n
 | 6,_=>exact T9 E1c
 | 7,_=>exact T9 E0q
 | 8,_=>exact T9 E1x
 | 9,_=>exact T9 D9y
 | 10,_=>exact T9 D5t
 | 11,_=>exact T9 D3d
 | 12,_=>exact T9 D6j
 | 13,_=>exact T9 D4u
 | 14,_=>exact T9 D3i
 | 15,_=>exact T9 D1s
 | 16,_=>exact T9 D2i
 | 17,_=>exact T9 D2n
 | 18,_=>exact T9 D5q
 | 19,_=>exact T9 D0p
 | 20,_=>exact T9 D0s
 | 21,_=>exact T9 D6b
 | 22,_=>exact T9 D6w
 | 23,_=>exact T9 D0o
 | 24,_=>exact T9 D5m
 | 25,_=>exact T9 D1e
 | 26,_=>exact T9 D6x
 | 27,_=>exact T9 D5w
 | 28,_=>exact T9 D3x
 | 29,_=>exact T9 D2z
 | 30,_=>exact T9 D5y
 | 31,_=>exact T9 D1p
 | n+32,h=>exact absurd h (by omega)
theorem A5s {n:List UInt8} {q:PN} {b:List UInt8} (h:Sp A0a C0x n 8=q) (e:(Ws q==b)=true):I1 (J3 E4 n)=b:=by
 have h1:J3 E4 n=Ng n:=A2x n (beq_self_eq_true _);rw[h1];show I1 (Ae n 8)=b;rw[A3q A7w D6p,h,A2k];exact eq_of_beq e
end
structure Ev where
 A:List UInt8
 S:List UInt8
 B:List UInt8
 M:List UInt8
 F:List UInt8
 RB:List UInt8
 KB:List UInt8
 SB:List UInt8
 R:List UInt64
 K:List UInt64
 Y:N5
 X:N5
 P:PN
 Q:PN
noncomputable def Ev.c1 (e:Ev) (sd ky:List UInt8):Bool:=K9 sd==e.A&&(J8 sd==e.S&&(Ah 1 (Y8 1 ky)==e.M&&(I5 [e.S,e.M]==e.R&&(H9 e.R==e.RB&&I5 [e.F,e.B,e.M]==e.K))))
noncomputable def Ev.c2 (e:Ev):Bool:=Ws (Sp A0a C0x e.A 8)==e.B
noncomputable def Ev.c3 (e:Ev):Bool:=Ws (Sp A0a C0x e.RB 8)==e.F
noncomputable def Ev.c4 (e:Ev):Bool:=H9 (Fh e.R (Ee e.K (O5 e.A)))==e.SB&&(Dk (Dk (z8 64) 0 e.F) 32 e.SB==e.F++e.SB&&(Tx e.B==u5 e.Y&&(eq5 (B4f C5x e.Y) e.X&&(Kk (F0 e.B)&&(A9m C5x e.Y&&(!(Jk e.B&&N9 (u5 e.X)==z8 32)&&(eqP (Xo (if Jk e.B then Sn Fm e.X else e.X) e.Y) e.P && !A7o A0a e.P)))))))
noncomputable def Ev.c5 (e:Ev):Bool:=eqP (C8d e.P) e.Q&&(H6 (e.F++e.SB) 0==e.F&&(H6 (e.F++e.SB) 32==e.SB&&(Pa e.SB&&(H9 (Ca e.SB)==e.SB&&H9 e.K==e.KB))))
noncomputable def Ev.c6 (e:Ev):Bool:=Ws (A7d A0a Xe e.SB e.Q e.KB 64)==e.F
theorem Ev.upd {e:Ev} {sd ky:List UInt8} (h1:e.c1 sd ky=true) (h2:e.c2=true) (h3:e.c3=true) (h4:e.c4=true) (h5:e.c5=true) (h6:e.c6=true) :
 Og sd 1 ky=⟨e.B,1,ky,e.F++e.SB⟩∧U8 (Og sd 1 ky)=true:=by
 simp only[Ev.c1,Ev.c2,Ev.c3,Ev.c4,Ev.c5,Ev.c6,Bool.and_eq_true,beq_iff_eq,Bool.not_eq_true']at h1 h2 h3 h4 h5 h6;obtain⟨a1,a2,a3,a4,a5,a6⟩:=h1;obtain⟨b1,b2,b3,b4,b5,b6,b7,b8,b9⟩:=h4;obtain⟨d1,d2,d3,d4,d5,d6⟩:=h5;have aB:Bj sd=e.B:=by unfold Bj;rw[a1];exact A5s rfl (by rw[h2];exact beq_self_eq_true _)
 have r:sgR sd [e.M]=e.R:=by unfold sgR;rw[a2,a4]
 have f:sgF sd [e.M]=e.F:=by unfold sgF;rw[r,a5];exact A5s rfl (by rw[h3];exact beq_self_eq_true _)
 have k:sgK sd [e.M]=e.K:=by unfold sgK;rw[f,aB,a6]
 have s:sgS sd [e.M]=e.SB:=by unfold sgS;rw[r,k,a1,b1]
 have sg:Nm sd [e.M]=e.F++e.SB:=by unfold Nm;rw[f,s,b2]
 have Ve:Og sd 1 ky=⟨e.B,1,ky,e.F++e.SB⟩:=by unfold Og Gu;rw[aB,a3,sg]
 have x:Tt e.B=u5 e.X:=by rw[C6z C4b b3,Ts b4]
 have ok:=C1x C4b b3 x b5 b6 b7;have p:Cl e.B=uP e.P:=by rw[C6g ok b3 x,A8b b8]
 have aA:Nt (Cl e.B)=false:=by rw[p,B6c A7w];exact b9
 have vf:vfH e.B (e.F++e.SB) [e.M]=e.F:=by unfold vfH vfK;rw[d2,d3,a6,d5,d6,p,C5v,A8b d1];show I1 (Aw e.SB (uP e.Q) e.KB 64)=e.F;rw[B0h A7w C6w,A2k];exact h6
 refine ⟨Ve,?_⟩;rw[Ve,Xc rfl rfl];show Fq e.B 1 (Y8 1 ky) (e.F++e.SB)=true;unfold Fq;rw[a3];unfold Dc;rw[ok,aA,d3,d4,vf,d2];simp
section
set_option maxRecDepth 100000
set_option maxHeartbeats 0
def eu9:Ev:=⟨[200,12,38,94,204,130,221,140,238,110,86,206,68,228,93,175,215,160,197,117,13,249,20,178,83,161,251,122,138,246,109,91],[153,118,54,7,240,168,93,11,212,54,105,25,74,58,64,87,122,82,138,243,149,244,241,126,6,241,222,252,198,222,178,165],[206,204,21,7,220,29,221,114,149,149,28,41,8,136,240,149,173,185,4,77,27,115,214,150,230,223,6,93,104,59,212,252],[119,105,116,97,110,1,0,0,0,0,0,0,0,40,0,0,0,0,0,0,0,1,2,0,0,0,0,0,0,0,0,0,0,0,0,0,0,0,0,0,0,0,0,0,0,0,0,0,0,0,0,0,0,0],[64,101,153,252,184,252,127,12,178,104,81,213,210,93,225,110,129,25,57,11,233,232,78,111,238,98,161,158,158,160,9,221],[167,252,29,139,182,217,45,132,98,137,196,27,99,180,115,68,110,202,10,208,71,8,74,92,133,143,5,193,177,247,82,15],[214,238,226,20,71,240,237,40,73,55,30,53,211,205,43,118,196,138,196,95,192,113,100,57,43,128,41,30,173,73,71,15],[32,243,253,161,234,217,59,155,58,20,160,32,162,85,10,218,5,180,99,46,43,65,14,16,108,211,123,246,150,20,197,13],[9524508164999740583,4932484354661452130,6650136904292026990,1104217201478832005],[2949277519081303766,8515125827487020873,4135555428887333572,1100929641799581739],⟨1440205732433102,287125319888475,1146682017825312,2237830084005286,2196015545700461⟩,⟨626536395482458,295576395633887,1336003373205109,698547845527882,1208567494868599⟩,⟨⟨1625263418202771,1956223418051360,915796440480138,1553251968157365,1043232318816648⟩,⟨1440205732433102,287125319888475,1146682017825312,2237830084005286,2196015545700461⟩,⟨1,0,0,0,0⟩,⟨243950350799911,1923543989867015,1055101283805844,742455266160301,82920972177670⟩⟩,⟨⟨626536395482458,295576395633887,1336003373205109,698547845527882,1208567494868599⟩,⟨1440205732433102,287125319888475,1146682017825312,2237830084005286,2196015545700461⟩,⟨1,0,0,0,0⟩,⟨2007849462885318,328255823818232,1196698529879403,1509344547524946,2168878841507577⟩⟩⟩
theorem D3p:Og (h1 1) 1 (h1 2)=⟨eu9.B,1,h1 2,eu9.F++eu9.SB⟩∧U8 (Og (h1 1) 1 (h1 2))=true:=Ev.upd (by decide +kernel) (by decide +kernel) (by decide +kernel) (by decide +kernel) (by decide +kernel) (by decide +kernel)
end
end Go.Proofs.YtlegpkdighoflaaGreat
