/- A part of the proof of AuditTells. -/
import Derived.Test.YtmllnpokbbabhaaGreatTat
set_option linter.unusedVariables false
set_option linter.unusedSimpArgs false
set_option maxRecDepth 100000
set_option maxHeartbeats 40000000
namespace Go.Proofs.YtmllnpokbbabhaaGreat
open Go Go.RowKit Sh
structure N5 where
 a:Nat
 b:Nat
 c:Nat
 d:Nat
 e:Nat
def u5 (x:N5):List UInt64:=[UInt64.ofNat x.a,UInt64.ofNat x.b,UInt64.ofNat x.c,UInt64.ofNat x.d,UInt64.ofNat x.e]
def D5n (x0 x1 x2 x3 x4:Nat):N5:=
 ⟨Nat.add (Nat.mod x0 2251799813685248) (Nat.mul 19 (Nat.div (Nat.mod x4 18446744073709551616) 2251799813685248)),
  Nat.add (Nat.mod x1 2251799813685248) (Nat.div (Nat.mod x0 18446744073709551616) 2251799813685248),
  Nat.add (Nat.mod x2 2251799813685248) (Nat.div (Nat.mod x1 18446744073709551616) 2251799813685248),
  Nat.add (Nat.mod x3 2251799813685248) (Nat.div (Nat.mod x2 18446744073709551616) 2251799813685248),
  Nat.add (Nat.mod x4 2251799813685248) (Nat.div (Nat.mod x3 18446744073709551616) 2251799813685248)⟩
def D8o (t0 t1 t2 t3 t4:Nat):N5:=
 D5n (Nat.add (Nat.mod t0 2251799813685248) (Nat.mul 19 (Nat.div t4 2251799813685248)))
  (Nat.add (Nat.mod t1 2251799813685248) (Nat.div t0 2251799813685248))
  (Nat.add (Nat.mod t2 2251799813685248) (Nat.div t1 2251799813685248))
  (Nat.add (Nat.mod t3 2251799813685248) (Nat.div t2 2251799813685248))
  (Nat.add (Nat.mod t4 2251799813685248) (Nat.div t3 2251799813685248))
def D0y (a b c d e:Nat):Nat:=Nat.add (Nat.add (Nat.add (Nat.add a b) c) d) e
def O8 (x:Nat):Nat:=Nat.mod x 18446744073709551616
def E3h (a0 a1 a2 a3 a4 b0 b1 b2 b3 b4 n1 n2 n3 n4:Nat):N5:=
 D8o (D0y (Nat.mul a0 b0) (Nat.mul n1 b4) (Nat.mul n2 b3) (Nat.mul n3 b2) (Nat.mul n4 b1))
  (D0y (Nat.mul a0 b1) (Nat.mul a1 b0) (Nat.mul n2 b4) (Nat.mul n3 b3) (Nat.mul n4 b2))
  (D0y (Nat.mul a0 b2) (Nat.mul a1 b1) (Nat.mul a2 b0) (Nat.mul n3 b4) (Nat.mul n4 b3))
  (D0y (Nat.mul a0 b3) (Nat.mul a1 b2) (Nat.mul a2 b1) (Nat.mul a3 b0) (Nat.mul n4 b4))
  (D0y (Nat.mul a0 b4) (Nat.mul a1 b3) (Nat.mul a2 b2) (Nat.mul a3 b1) (Nat.mul a4 b0))
def De (x y:N5):N5:=
 E3h (O8 x.a) (O8 x.b) (O8 x.c) (O8 x.d) (O8 x.e) (O8 y.a) (O8 y.b) (O8 y.c) (O8 y.d) (O8 y.e)
  (O8 (Nat.mul 19 x.b)) (O8 (Nat.mul 19 x.c)) (O8 (Nat.mul 19 x.d)) (O8 (Nat.mul 19 x.e))
def sqG (a0 a1 a2 a3 a4 d0 d1 d2 d3 n3 n4:Nat):N5:=
 D8o (Nat.add (Nat.add (Nat.mul a0 a0) (Nat.mul d1 n4)) (Nat.mul d2 n3))
  (Nat.add (Nat.add (Nat.mul d0 a1) (Nat.mul d2 n4)) (Nat.mul a3 n3))
  (Nat.add (Nat.add (Nat.mul d0 a2) (Nat.mul a1 a1)) (Nat.mul d3 n4))
  (Nat.add (Nat.add (Nat.mul d0 a3) (Nat.mul d1 a2)) (Nat.mul a4 n4))
  (Nat.add (Nat.add (Nat.mul d0 a4) (Nat.mul d1 a3)) (Nat.mul a2 a2))
def sqN (x:N5):N5:=
 sqG (O8 x.a) (O8 x.b) (O8 x.c) (O8 x.d) (O8 x.e) (O8 (Nat.mul 2 x.a)) (O8 (Nat.mul 2 x.b)) (O8 (Nat.mul 2 x.c)) (O8 (Nat.mul 2 x.d)) (O8 (Nat.mul 19 x.d)) (O8 (Nat.mul 19 x.e))
def Ta (x y:N5):N5:=D5n (Nat.add x.a y.a) (Nat.add x.b y.b) (Nat.add x.c y.c) (Nat.add x.d y.d) (Nat.add x.e y.e)
def B8g (x y:N5):N5:=
 D5n (Nat.add x.a (Nat.sub 18455751272964292532 (O8 y.a))) (Nat.add x.b (Nat.sub 18455751272964292604 (O8 y.b))) (Nat.add x.c (Nat.sub 18455751272964292604 (O8 y.c))) (Nat.add x.d (Nat.sub 18455751272964292604 (O8 y.d))) (Nat.add x.e (Nat.sub 18455751272964292604 (O8 y.e)))
def A3c:Nat→N5→N5
 | 0,a=>a
 | q+1,a=>sqN (A3c q a)
def d2 (n:Nat):List UInt64:=[UInt64.ofNat (n / 18446744073709551616),UInt64.ofNat n]
theorem J6 (n:Nat):(UInt64.ofNat n).toNat=n % 18446744073709551616:=UInt64.toNat_ofNat' ..
theorem Ud (a b:Nat):UInt64.ofNat a+UInt64.ofNat b=UInt64.ofNat (a+b):=by
 apply UInt64.toNat_inj.1;rw[UInt64.toNat_add,J6,J6,J6];omega
theorem A8j (a b:Nat):UInt64.ofNat a*UInt64.ofNat b=UInt64.ofNat (a*b):=by
 apply UInt64.toNat_inj.1;rw[UInt64.toNat_mul,J6,J6,J6];exact (Nat.mul_mod _ _ _).symm
theorem P8 (a:Nat):UInt64.ofNat (O8 a)=UInt64.ofNat a:=by
 apply UInt64.toNat_inj.1;rw[J6,J6];show a % 18446744073709551616 % 18446744073709551616=_;omega
theorem C8w (a:Nat):UInt64.ofNat a &&& (2251799813685247:UInt64)=UInt64.ofNat (a % 2251799813685248):=by
 apply UInt64.toNat_inj.1;rw[UInt64.toNat_and,J6,J6];rw[show (2251799813685247:UInt64).toNat=2 ^ 51-1 from rfl,Nat.and_two_pow_sub_one_eq_mod];omega
theorem D8p (a:Nat):UInt64.ofNat a >>> (51:UInt64)=UInt64.ofNat (a % 18446744073709551616 / 2251799813685248):=by
 apply UInt64.toNat_inj.1;rw[UInt64.toNat_shiftRight,J6,J6,show (51:UInt64).toNat % 64=51 from rfl,Nat.shiftRight_eq_div_pow];omega
theorem C1i (x y:Nat) (hx:x<18446744073709551616) (hy:y<18446744073709551616):Ns (UInt64.ofNat x) (UInt64.ofNat y)=d2 (x*y):=by
 unfold Ns B2r d2;rw[A8j,J6,J6,Nat.mod_eq_of_lt hx,Nat.mod_eq_of_lt hy]
theorem B2v (n x y:Nat) (hx:x<18446744073709551616) (hy:y<18446744073709551616):V9 (d2 n) (UInt64.ofNat x) (UInt64.ofNat y)=d2 (n+x*y):=by
 have e0:E0 (d2 n) 0=UInt64.ofNat (n / 18446744073709551616):=rfl;have e1:E0 (d2 n) 1=UInt64.ofNat n:=rfl;unfold V9;rw[e0,e1];unfold d2 Yd A2j B2r;have z:(0:UInt64)=UInt64.ofNat 0:=rfl;rw[A8j,J6,J6,J6,J6,Nat.mod_eq_of_lt hx,Nat.mod_eq_of_lt hy,z,J6,Ud,Ud,Ud,Ud];generalize x*y=p;have:UInt64.ofNat (p / 18446744073709551616+n / 18446744073709551616+(p % 18446744073709551616+n % 18446744073709551616+0 % 18446744073709551616) / 18446744073709551616)=UInt64.ofNat ((n+p) / 18446744073709551616):=by congr 1;omega
 rw[this];congr 2;congr 1;omega
theorem D4v (n:Nat):over (d2 n)=UInt64.ofNat (n / 2251799813685248):=by
 have e0:E0 (d2 n) 0=UInt64.ofNat (n / 18446744073709551616):=rfl;have e1:E0 (d2 n) 1=UInt64.ofNat n:=rfl;unfold over;rw[e0,e1];apply UInt64.toNat_inj.1;rw[UInt64.toNat_or,UInt64.toNat_shiftLeft,UInt64.toNat_shiftRight,J6,J6,J6,show (51:UInt64).toNat % 64=51 from rfl,show (13:UInt64).toNat % 64=13 from rfl,Nat.shiftRight_eq_div_pow,Nat.shiftLeft_eq];have e:n / 18446744073709551616 % 18446744073709551616*2 ^ 13 % 2 ^ 64=(n / 18446744073709551616 % 2251799813685248) <<< 13:=by rw[Nat.shiftLeft_eq];omega
 rw[e,←Nat.shiftLeft_add_eq_or_of_lt (by omega),Nat.shiftLeft_eq];omega
theorem D9h (n:Nat):E0 (d2 n) 1 &&& (2251799813685247:UInt64)=UInt64.ofNat (n % 2251799813685248):=C8w n
theorem Bn (a:Nat):19*UInt64.ofNat a=UInt64.ofNat (19*a):=A8j 19 a
theorem A7u (a:Nat):2*UInt64.ofNat a=UInt64.ofNat (2*a):=A8j 2 a
theorem B6g (x0 x1 x2 x3 x4:Nat):Gv [UInt64.ofNat x0,UInt64.ofNat x1,UInt64.ofNat x2,UInt64.ofNat x3,UInt64.ofNat x4]=u5 (D5n x0 x1 x2 x3 x4):=by
 show [(UInt64.ofNat x0 &&& (2251799813685247:UInt64))+19*(UInt64.ofNat x4 >>> (51:UInt64)),(UInt64.ofNat x1 &&& (2251799813685247:UInt64))+UInt64.ofNat x0 >>> (51:UInt64),(UInt64.ofNat x2 &&& (2251799813685247:UInt64))+UInt64.ofNat x1 >>> (51:UInt64),(UInt64.ofNat x3 &&& (2251799813685247:UInt64))+UInt64.ofNat x2 >>> (51:UInt64),(UInt64.ofNat x4 &&& (2251799813685247:UInt64))+UInt64.ofNat x3 >>> (51:UInt64)]=_;simp only[C8w,D8p,Bn,Ud];rfl
theorem D0t (t0 t1 t2 t3 t4:Nat):Po (d2 t0) (d2 t1) (d2 t2) (d2 t3) (d2 t4)=u5 (D8o t0 t1 t2 t3 t4):=by
 unfold Po E0g;simp only[D9h,D4v,Bn,Ud];rw[B6g];rfl
theorem Od (a:Nat):O8 a<18446744073709551616:=Nat.mod_lt _ (by decide)
theorem Fc (x y:N5):J9 (u5 x) (u5 y)=u5 (De x y):=by
 obtain⟨a0,a1,a2,a3,a4⟩:=x;obtain⟨b0,b1,b2,b3,b4⟩:=y;have e0:E0 (u5 ⟨a0,a1,a2,a3,a4⟩) 0=UInt64.ofNat (O8 a0):=(P8 _).symm;have e1:E0 (u5 ⟨a0,a1,a2,a3,a4⟩) 1=UInt64.ofNat (O8 a1):=(P8 _).symm;have e2:E0 (u5 ⟨a0,a1,a2,a3,a4⟩) 2=UInt64.ofNat (O8 a2):=(P8 _).symm;have e3:E0 (u5 ⟨a0,a1,a2,a3,a4⟩) 3=UInt64.ofNat (O8 a3):=(P8 _).symm;have e4:E0 (u5 ⟨a0,a1,a2,a3,a4⟩) 4=UInt64.ofNat (O8 a4):=(P8 _).symm;have f0:E0 (u5 ⟨b0,b1,b2,b3,b4⟩) 0=UInt64.ofNat (O8 b0):=(P8 _).symm;have f1:E0 (u5 ⟨b0,b1,b2,b3,b4⟩) 1=UInt64.ofNat (O8 b1):=(P8 _).symm;have f2:E0 (u5 ⟨b0,b1,b2,b3,b4⟩) 2=UInt64.ofNat (O8 b2):=(P8 _).symm;have f3:E0 (u5 ⟨b0,b1,b2,b3,b4⟩) 3=UInt64.ofNat (O8 b3):=(P8 _).symm;have f4:E0 (u5 ⟨b0,b1,b2,b3,b4⟩) 4=UInt64.ofNat (O8 b4):=(P8 _).symm;have n1:19*UInt64.ofNat (O8 a1)=UInt64.ofNat (O8 (Nat.mul 19 a1)):=by rw[P8,P8];exact Bn _
 have n2:19*UInt64.ofNat (O8 a2)=UInt64.ofNat (O8 (Nat.mul 19 a2)):=by rw[P8,P8];exact Bn _
 have n3:19*UInt64.ofNat (O8 a3)=UInt64.ofNat (O8 (Nat.mul 19 a3)):=by rw[P8,P8];exact Bn _
 have n4:19*UInt64.ofNat (O8 a4)=UInt64.ofNat (O8 (Nat.mul 19 a4)):=by rw[P8,P8];exact Bn _
 unfold J9 B9q B8h B9g C0d B6w;rw[e0,e1,e2,e3,e4,f0,f1,f2,f3,f4,n1,n2,n3,n4];unfold De E3h;dsimp only;simp only[C1i _ _ (Od _) (Od _),B2v _ _ _ (Od _) (Od _)];exact D0t _ _ _ _ _
theorem C1u (x:N5):fsq (u5 x)=u5 (sqN x):=by
 obtain⟨a0,a1,a2,a3,a4⟩:=x;have e0:E0 (u5 ⟨a0,a1,a2,a3,a4⟩) 0=UInt64.ofNat (O8 a0):=(P8 _).symm;have e1:E0 (u5 ⟨a0,a1,a2,a3,a4⟩) 1=UInt64.ofNat (O8 a1):=(P8 _).symm;have e2:E0 (u5 ⟨a0,a1,a2,a3,a4⟩) 2=UInt64.ofNat (O8 a2):=(P8 _).symm;have e3:E0 (u5 ⟨a0,a1,a2,a3,a4⟩) 3=UInt64.ofNat (O8 a3):=(P8 _).symm;have e4:E0 (u5 ⟨a0,a1,a2,a3,a4⟩) 4=UInt64.ofNat (O8 a4):=(P8 _).symm;have n3:19*UInt64.ofNat (O8 a3)=UInt64.ofNat (O8 (Nat.mul 19 a3)):=by rw[P8,P8];exact Bn _
 have n4:19*UInt64.ofNat (O8 a4)=UInt64.ofNat (O8 (Nat.mul 19 a4)):=by rw[P8,P8];exact Bn _
 have m0:2*UInt64.ofNat (O8 a0)=UInt64.ofNat (O8 (Nat.mul 2 a0)):=by rw[P8,P8];exact A7u _
 have m1:2*UInt64.ofNat (O8 a1)=UInt64.ofNat (O8 (Nat.mul 2 a1)):=by rw[P8,P8];exact A7u _
 have m2:2*UInt64.ofNat (O8 a2)=UInt64.ofNat (O8 (Nat.mul 2 a2)):=by rw[P8,P8];exact A7u _
 have m3:2*UInt64.ofNat (O8 a3)=UInt64.ofNat (O8 (Nat.mul 2 a3)):=by rw[P8,P8];exact A7u _
 unfold fsq C8z C9c C8m D0k C9x;rw[e0,e1,e2,e3,e4,m0,m1,m2,m3,n3,n4];unfold sqN sqG;dsimp only;simp only[C1i _ _ (Od _) (Od _),B2v _ _ _ (Od _) (Od _)];exact D0t _ _ _ _ _
theorem D2y (x y:N5):Fj (u5 x) (u5 y)=u5 (Ta x y):=by
 obtain⟨a0,a1,a2,a3,a4⟩:=x;obtain⟨b0,b1,b2,b3,b4⟩:=y;have e:E1d (u5 ⟨a0,a1,a2,a3,a4⟩) (u5 ⟨b0,b1,b2,b3,b4⟩)=[UInt64.ofNat a0+UInt64.ofNat b0,UInt64.ofNat a1+UInt64.ofNat b1,UInt64.ofNat a2+UInt64.ofNat b2,UInt64.ofNat a3+UInt64.ofNat b3,UInt64.ofNat a4+UInt64.ofNat b4]:=rfl;unfold Fj;rw[e];simp only[Ud];exact B6g _ _ _ _ _
theorem A7x (a b:Nat):UInt64.ofNat a+(9007199254740988-UInt64.ofNat b)=UInt64.ofNat (a+(18455751272964292604-O8 b)):=by
 apply UInt64.toNat_inj.1;rw[UInt64.toNat_add,UInt64.toNat_sub,J6,J6,J6];have:(9007199254740988:UInt64).toNat=9007199254740988:=rfl;rw[this];show _=(a+(18455751272964292604-b % 18446744073709551616)) % 18446744073709551616;omega
theorem D3i (a b:Nat):UInt64.ofNat a+(9007199254740988-UInt64.ofNat b)-72=UInt64.ofNat (a+(18455751272964292532-O8 b)):=by
 apply UInt64.toNat_inj.1;rw[UInt64.toNat_sub,UInt64.toNat_add,UInt64.toNat_sub,J6,J6,J6];have:(9007199254740988:UInt64).toNat=9007199254740988:=rfl;rw[this];have:(72:UInt64).toNat=72:=rfl;rw[this];show _=(a+(18455751272964292532-b % 18446744073709551616)) % 18446744073709551616;omega
theorem C6u (x y:N5):Gh (u5 x) (u5 y)=u5 (B8g x y):=by
 obtain⟨a0,a1,a2,a3,a4⟩:=x;obtain⟨b0,b1,b2,b3,b4⟩:=y;have e:D9n (u5 ⟨a0,a1,a2,a3,a4⟩) (u5 ⟨b0,b1,b2,b3,b4⟩)=[UInt64.ofNat a0+(9007199254740988-UInt64.ofNat b0)-72,UInt64.ofNat a1+(9007199254740988-UInt64.ofNat b1),UInt64.ofNat a2+(9007199254740988-UInt64.ofNat b2),UInt64.ofNat a3+(9007199254740988-UInt64.ofNat b3),UInt64.ofNat a4+(9007199254740988-UInt64.ofNat b4)]:=rfl;unfold Gh;rw[e];rw[D3i,A7x,A7x,A7x,A7x];exact B6g _ _ _ _ _
theorem Ma (n:Nat) (x:N5):Ef n (u5 x)=u5 (A3c n x):=by
 induction n with
 | zero=>rfl
 | succ n ih=>show fsq (Ef n (u5 x))=_;rw[ih,C1u];rfl
def C2q (a:N5):N5:=De (A3c 2 (sqN a)) a
def Zz (a:N5):N5:=De (C2q a) (sqN a)
def n5 (a:N5):N5:=De (sqN (Zz a)) (C2q a)
def n10 (a:N5):N5:=De (A3c 5 (n5 a)) (n5 a)
def n20 (a:N5):N5:=De (A3c 10 (n10 a)) (n10 a)
def n50 (a:N5):N5:=De (A3c 10 (De (A3c 20 (n20 a)) (n20 a))) (n10 a)
def D5g (a:N5):N5:=De (A3c 50 (n50 a)) (n50 a)
def C6k (a:N5):N5:=De (A3c 50 (De (A3c 100 (D5g a)) (D5g a))) (n50 a)
def D5p (a:N5):N5:=De (A3c 5 (C6k a)) (Zz a)
theorem C0j (a:N5):A7t (u5 a)=u5 (C2q a):=by unfold A7t C2q;simp only[C1u,Ma,Fc]
theorem A7i (a:N5):Ju (u5 a)=u5 (Zz a):=by unfold Ju Zz;simp only[C0j,C1u,Ma,Fc]
theorem E9x (a:N5):f5 (u5 a)=u5 (n5 a):=by unfold f5 n5;simp only[C0j,A7i,C1u,Ma,Fc]
theorem D6x (a:N5):f10 (u5 a)=u5 (n10 a):=by unfold f10 n10;simp only[E9x,Ma,Fc]
theorem E3m (a:N5):f20 (u5 a)=u5 (n20 a):=by unfold f20 n20;simp only[D6x,Ma,Fc]
theorem D7f (a:N5):f50 (u5 a)=u5 (n50 a):=by unfold f50 n50;simp only[D6x,E3m,Ma,Fc]
theorem D9g (a:N5):B0a (u5 a)=u5 (D5g a):=by unfold B0a D5g;simp only[D7f,Ma,Fc]
theorem D5a (a:N5):Vp (u5 a)=u5 (C6k a):=by unfold Vp C6k;simp only[D7f,D9g,Ma,Fc]
theorem E0l (a:N5):Zr (u5 a)=u5 (D5p a):=by unfold Zr D5p;simp only[D5a,A7i,Ma,Fc]
structure PN where
 x:N5
 y:N5
 z:N5
 t:N5
def uP (p:PN):Pn:=⟨u5 p.x,u5 p.y,u5 p.z,u5 p.t⟩
def A6t (p q:PN) (k:N5):PN:=
 let a:=De (B8g p.y p.x) (B8g q.y q.x)
 let b:=De (Ta p.y p.x) (Ta q.y q.x)
 let c:=De (De p.t k) q.t
 let d:=De p.z q.z
 let d2:=Ta d d
 let e:=B8g b a
 let f:=B8g d2 c
 let g:=Ta d2 c
 let h:=Ta b a
 ⟨De e f,De g h,De f g,De e h⟩
def dbN (p:PN):PN:=
 let a:=De p.x p.x
 let b:=De p.y p.y
 let c:=De p.z p.z
 let h:=Ta a b
 let s:=Ta p.x p.y
 let e:=B8g h (De s s)
 let g:=B8g a b
 let f:=Ta (Ta c c) g
 ⟨De e f,De g h,De f g,De e h⟩
theorem A0f (p q:PN) (k:N5):Gq (uP p) (uP q) (u5 k)=uP (A6t p q k):=by
 unfold Gq uP A6t;simp only[Fc,D2y,C6u]
theorem D2s (p:PN):Qb (uP p)=uP (dbN p):=by
 unfold Qb uP dbN;simp only[Fc,D2y,C6u]
theorem C7a:(([]:List UInt64)==[])=true:=rfl
def z5N (x:N5):Bool:=(O8 x.a).beq 0&&((O8 x.b).beq 0&&((O8 x.c).beq 0&&((O8 x.d).beq 0&&(O8 x.e).beq 0)))
def zPN (p:PN):Bool:=z5N p.x&&(z5N p.y&&(z5N p.z&&z5N p.t))
theorem D4o (a:Nat):(UInt64.ofNat a==0)=(O8 a).beq 0:=by
 rw[Bool.eq_iff_iff,beq_iff_eq,Nat.beq_eq,←UInt64.toNat_inj,J6];rfl
theorem D5s (x:N5):(u5 x==T9 5)=z5N x:=by
 show ([UInt64.ofNat x.a,UInt64.ofNat x.b,UInt64.ofNat x.c,UInt64.ofNat x.d,UInt64.ofNat x.e]==[0,0,0,0,0])=_;simp only[List.cons_beq_cons,C7a,D4o,Bool.and_true];rfl
theorem F0e (p:PN):((uP p).row==T9 20)=zPN p:=by
 have e:∀(a b c d:List UInt64),a.length=5→b.length=5→c.length=5→d.length=5→(ptl a b c d==T9 20)=((a==T9 5)&&((b==T9 5)&&((c==T9 5)&&(d==T9 5)))):=by
  intro a b c d ha hb hc hd;match a,b,c,d,ha,hb,hc,hd with
  | [a0,a1,a2,a3,a4],[b0,b1,b2,b3,b4],[c0,c1,c2,c3,c4],[d0,d1,d2,d3,d4],_,_,_,_=>
   show ([a0,a1,a2,a3,a4,b0,b1,b2,b3,b4,c0,c1,c2,c3,c4,d0,d1,d2,d3,d4]==[0,0,0,0,0,0,0,0,0,0,0,0,0,0,0,0,0,0,0,0])=(([a0,a1,a2,a3,a4]==[0,0,0,0,0])&&(([b0,b1,b2,b3,b4]==[0,0,0,0,0])&&(([c0,c1,c2,c3,c4]==[0,0,0,0,0])&&([d0,d1,d2,d3,d4]==[0,0,0,0,0]))));simp only[List.cons_beq_cons,C7a,Bool.true_and,Bool.and_true,Bool.and_assoc]
 unfold Pn.row uP zPN;rw[e _ _ _ _ rfl rfl rfl rfl,D5s,D5s,D5s,D5s]
def B7q:N5:=⟨1,0,0,0,0⟩
def Jl:N5:=⟨0,0,0,0,0⟩
theorem D8f:Bm 1=u5 B7q:=by decide +kernel
theorem D8n:Bm 0=u5 Jl:=by decide +kernel
def B4k (x y:N5):PN:=⟨x,y,B7q,De x y⟩
theorem A6y (x y:N5):Z7 (u5 x) (u5 y)=uP (B4k x y):=by unfold Z7 uP B4k;simp only[Fc,D8f]
def Ow (p:PN):PN:=if zPN p then B4k Jl B7q else p
theorem Uz (p:PN):P4 (uP p)=uP (Ow p):=by
 unfold P4 Ow;rw[F0e];split
 ·rw[D8f,D8n,A6y]
 ·rfl
def D8a (x y:N5):List UInt8:=if A4s (u5 x) then (Q0 (u5 y)).set 31 (g8 (Q0 (u5 y)) 31 ||| 128) else Q0 (u5 y)
def C0i (p:PN):List UInt8:=D8a (De (Ow p).x (D5p (Ow p).z)) (De (Ow p).y (D5p (Ow p).z))
theorem D6a (p:PN):Gs (uP p)=C0i p:=by
 unfold Gs C0i B5w D8a;rw[Uz];unfold uP;simp only[E0l,Fc]
def C7y:Nat→PN→PN
 | 0,p=>p
 | q+1,p=>dbN (C7y q p)
theorem D9r (q:Nat) (p:PN):Zn q (uP p)=uP (C7y q p):=by
 induction q with
 | zero=>rfl
 | succ q ih=>show Qb (Zn q (uP p))=_;rw[ih,D2s];rfl
def C0t (k:N5) (p:PN):Nat→PN
 | 0=>B4k Jl B7q
 | 1=>Ow p
 | i+2=>A6t (C0t k p (i+1)) (Ow p) k
theorem Ue:P4 Bj=uP (B4k Jl B7q):=by
 have:Bj=uP ⟨Jl,Jl,Jl,Jl⟩:=rfl;rw[this,Uz];rfl
theorem B6i (k:N5) (p:PN):∀i,B8t (uP p) (u5 k) i=uP (C0t k p i)
 | 0=>Ue
 | 1=>Uz p
 | i+2=>by show Gq (B8t (uP p) (u5 k) (i+1)) (P4 (uP p)) (u5 k)=_;rw[B6i k p (i+1),Uz,A0f];rfl
def C7i (k:N5) (b:PN) (n:List UInt8) (p:PN) (m:List UInt8):Nat→PN
 | 0=>B4k Jl B7q
 | i+1=>A6t (A6t (C7y 4 (C7i k b n p m i)) (C0t k b (dg n (63-i))) k) (C0t k p (dg m (63-i))) k
theorem D4b {k:N5} {b:PN} (hk:X3=u5 k) (hb:Z1=uP b) (n:List UInt8) (p:PN) (m:List UInt8):∀i,Wb n (uP p) m i=uP (C7i k b n p m i)
 | 0=>by
  show Eh (Bo Z1 X3) 0=_;rw[Wt (by decide)];exact Ue
 | i+1=>by
  show Gq (Gq (Zn 4 (Wb n (uP p) m i)) (Eh (Bo Z1 X3) (dg n (63-i))) X3) (Eh (Bo (uP p) X3) (dg m (63-i))) X3=_;rw[Wt (B4x _ _),Wt (B4x _ _),D4b hk hb n p m i,hk,hb,B6i,B6i,D9r,A0f,A0f];rfl
def C2a (l:List PN) (i:Nat):PN:=l.getD i ⟨Jl,Jl,Jl,Jl⟩
def Ny (k:N5) (l:List PN) (n:List UInt8) (s:Nat) (r:PN):Nat→PN
 | 0=>r
 | i+1=>if C5d n i s then A6t (Ny k l n s r i) (C2a l i) k else Ny k l n s r i
def A0c (k:N5) (l:List PN) (n:List UInt8):Nat→PN
 | 0=>B4k Jl B7q
 | m+1=>Ny k l n (7-m) (dbN (A0c k l n m)) 32
theorem Xr {k:N5} {l:List PN} (hk:X3=u5 k) (hl:∀i,i<32→Ke i=uP (C2a l i)) (n:List UInt8) (s:Nat) (r:PN):∀i,i≤32→X6 n s (uP r) i=uP (Ny k l n s r i)
 | 0,_=>rfl
 | i+1,hi=>by
  unfold X6 Ny;split
  ·rw[Xr hk hl n s r i (by omega),hl i (by omega),hk,A0f]
  ·exact Xr hk hl n s r i (by omega)
theorem B3p {k:N5} {l:List PN} (hk:X3=u5 k) (hl:∀i,i<32→Ke i=uP (C2a l i)) (n:List UInt8):∀m,Bx n m=uP (A0c k l n m)
 | 0=>Ue
 | m+1=>by
  show X6 n (7-m) (Qb (Bx n m)) 32=_;rw[B3p hk hl n m,D2s,Xr hk hl _ _ _ _ (Nat.le_refl _)];rfl
section
def eq5 (x y:N5):Bool:=Nat.beq x.a y.a&&(Nat.beq x.b y.b&&(Nat.beq x.c y.c&&(Nat.beq x.d y.d&&Nat.beq x.e y.e)))
theorem A9z {x y:N5} (h:eq5 x y=true):x=y:=by
 obtain⟨a,b,c,d,e⟩:=x;obtain⟨a',b',c',d',e'⟩:=y;simp only[eq5,Bool.and_eq_true,Nat.beq_eq]at h;obtain⟨rfl,rfl,rfl,rfl,rfl⟩:=h;rfl
def eqP (p q:PN):Bool:=eq5 p.x q.x&&(eq5 p.y q.y&&(eq5 p.z q.z&&eq5 p.t q.t))
theorem E0o {p q:PN} (h:eqP p q=true):p=q:=by
 obtain⟨a,b,c,d⟩:=p;obtain⟨a',b',c',d'⟩:=q;simp only[eqP,Bool.and_eq_true]at h;rw[A9z h.1,A9z h.2.1,A9z h.2.2.1,A9z h.2.2.2]
set_option maxRecDepth 100000
set_option maxHeartbeats 0
def C6i:N5:=⟨1859910466990425,932731440258426,1072319116312658,1815898335770999,633789495995903⟩
theorem D8s:X3=u5 C6i:=by decide +kernel
def B1w (row:List UInt8) (k:Nat):UInt8:=Sc (g8 row (2*k)) <<< 4 ||| Sc (g8 row (2*k+1))
theorem C2h (l:List UInt8) (n j:Nat):g8 (l.drop n) j=g8 l (n+j):=by
 unfold g8;rw[List.getD_eq_getElem?_getD,List.getD_eq_getElem?_getD,List.getElem?_drop]
theorem C4j (i:Nat):C2d i=He (B1w (M5.drop (128*i))) 64 64:=by
 unfold C2d;have:Aa i=B1w (M5.drop (128*i)):=by
  funext k;unfold Aa B1w;rw[C2h,C2h];rfl
 rw[this]
noncomputable def Q2 (i:Nat) (p:PN):Bool:=U8 (E1 (He (B1w (M5.drop (128*i))) 64 64) 0)==u5 p.x&&(U8 (E1 (He (B1w (M5.drop (128*i))) 64 64) 32)==u5 p.y&&eqP (B4k p.x p.y) p)
theorem M7 {i:Nat} {p:PN} (h:Q2 i p=true):Ke i=uP p:=by
 unfold Q2 at h;simp only[Bool.and_eq_true,beq_iff_eq]at h;unfold Ke;rw[C4j,h.1,h.2.1,A6y,E0o h.2.2]
def kL0:PN:=⟨⟨1738742601995546,1146398526822698,2070867633025821,562264141797630,587772402128613⟩,⟨1801439850948184,1351079888211148,450359962737049,900719925474099,1801439850948198⟩,⟨1,0,0,0,0⟩,⟨1841354044333475,16398895984059,755974180946558,900171276175154,1821297809914039⟩⟩
def kL1:PN:=⟨⟨207657587877206,2100806663644183,634766761317859,1794349103177875,1662326270124510⟩,⟨1161296182310599,941340786753986,2054541528034550,348227273872704,269755449941776⟩,⟨1,0,0,0,0⟩,⟨956558613127806,218246011415390,1471725144979126,911638385797892,1757616091032277⟩⟩
def kL2:PN:=⟨⟨1521219502450021,1846410879841235,34313878798212,10546997869797,1652014780966119⟩,⟨1658952464264246,301281990073328,1421351965663984,1976190811556149,784992082977218⟩,⟨1,0,0,0,0⟩,⟨892904545274529,1276862129681126,2227823945098524,1198975692454157,531459573462592⟩⟩
def kL3:PN:=⟨⟨227770048461431,487879623988285,1417664382069336,21120743092234,192648498818915⟩,⟨489485269993669,31434140373030,662742595234372,520860463613287,581679651492685⟩,⟨1,0,0,0,0⟩,⟨440709916510127,606245067725176,575712091139983,1665763122282094,1396451099334619⟩⟩
def kL4:PN:=⟨⟨2137057258114235,578737412616802,222102366986352,1234677837468596,1356664587499029⟩,⟨1722913527544090,2088871461428873,1128366041178413,803942221589082,1922039712175331⟩,⟨1,0,0,0,0⟩,⟨643056839880049,523898651151534,204380683349760,1233102105443002,2156664000083962⟩⟩
def kL5:PN:=⟨⟨1285304317579493,539645416220191,1912192162872302,1488507247591807,271320221614130⟩,⟨78734827152218,1357852017365999,290905538263157,908753962904692,1078524239176568⟩,⟨1,0,0,0,0⟩,⟨1377163577851704,1450974270990480,1438768082383222,73739011122910,715982777037845⟩⟩
def kL6:PN:=⟨⟨2139631458254162,114745178815772,1087650998417340,1304905119131584,1454119089317820⟩,⟨1848586308489622,611786136704735,745684036015187,324537442443163,1422099643653513⟩,⟨1,0,0,0,0⟩,⟨289958792114194,1718243155014068,618410686050882,2148570867678717,2200768563603231⟩⟩
def kL7:PN:=⟨⟨54901458865636,727536360848802,1177631862964415,1689752924059193,2003135700883297⟩,⟨373003406320657,975674768844653,407736244583094,1999031378370391,1009852647415928⟩,⟨1,0,0,0,0⟩,⟨1775725816775503,1049202381591688,1875336355828115,1273325138276258,1490320459503170⟩⟩
def kL8:PN:=⟨⟨962690963841538,2210719638316993,706068330177389,1384191282407386,1726421572252383⟩,⟨1964103625364243,307116021699043,120882883216088,20816463754899,55369446368493⟩,⟨1,0,0,0,0⟩,⟨1568907369646169,514127314339263,40774287502072,1976251032040224,1733588893334842⟩⟩
def kL9:PN:=⟨⟨1071545802964639,1907633890512027,1590806793797968,801793450737153,552650580738272⟩,⟨147714283167257,991334929770036,740594144646985,1359930762689594,2104011130007174⟩,⟨1,0,0,0,0⟩,⟨1753093361894213,1521233125158248,1386128832987038,1088053247760158,193516695534830⟩⟩
def E3z:PN:=⟨⟨513161589821684,135189712591322,268115112334192,732346932090735,1698600094179178⟩,⟨1926627679356154,546033803356952,1665378458738264,1140574075214145,1041362083641741⟩,⟨1,0,0,0,0⟩,⟨1353416909210792,1517015454331480,809582929435518,2005509998263633,1154861397913715⟩⟩
def E6y:PN:=⟨⟨1739414694272229,1521928877555375,1503334770669637,763386956585108,1862129073046365⟩,⟨1268802689912462,967753215362474,632928647924378,938581088869778,1093383925776355⟩,⟨1,0,0,0,0⟩,⟨1439619040869311,122358970891288,2003741039041763,1571825034906733,1553939020907850⟩⟩
def E4x:PN:=⟨⟨1228065289500112,1995656439401154,747490468072570,1771782479153808,1441803220130225⟩,⟨1133256506751681,1971401122869232,364740748818945,274858525947676,944245750712036⟩,⟨1,0,0,0,0⟩,⟨969799468763409,758675615912443,164497183604933,410658007103705,1365606147138959⟩⟩
def E2m:PN:=⟨⟨2050219849394447,2136640035013897,682111103158185,1698971002258475,442296111034018⟩,⟨558048773939678,897533695604502,1035891336244684,1945051063646027,220875155027932⟩,⟨1,0,0,0,0⟩,⟨136528770899845,637133720221738,1127633800314291,1677182430025837,1482130520813037⟩⟩
def E4m:PN:=⟨⟨513905658590587,680817969573829,1150970882872061,354648524841429,1182660725187364⟩,⟨1687245214141198,1499423053851412,1198492387236350,1278757245406394,1918084130941870⟩,⟨1,0,0,0,0⟩,⟨13131300766877,2018180793845027,437449436518264,116732650814892,1368575053372683⟩⟩
def E7i:PN:=⟨⟨124475054908452,1906983202879951,611701698187204,1873527664260246,1365903236220276⟩,⟨1978406422605413,1915091176750658,961916202316503,396934785157585,866421071701821⟩,⟨1,0,0,0,0⟩,⟨417773349695347,1654602006188621,985389090556103,1189633363629426,288170139646185⟩⟩
def E4b:PN:=⟨⟨78814272546852,343446598238096,1469662686845463,446722075312752,1339733442806879⟩,⟨770831939905131,1066752177064823,855905013023480,1194941381303059,1674322643330780⟩,⟨1,0,0,0,0⟩,⟨2025065385374602,84441031851324,1769310306558354,26295680040963,99051874860870⟩⟩
def E3w:PN:=⟨⟨2248752024183766,708723593180029,1256489519620460,1977762733290583,2173540277402287⟩,⟨356808580336773,889637948668713,2118215992267087,2196570670553569,497367236949540⟩,⟨1,0,0,0,0⟩,⟨637585733359542,1435081831225848,1456442193699608,1717437606507251,1447466321451996⟩⟩
def E5s:PN:=⟨⟨2102370904129425,9421038388327,922877803622304,1730456536722459,762334075187381⟩,⟨427580487847279,1800861300174619,848721725908694,1905002686634420,2174839152969707⟩,⟨1,0,0,0,0⟩,⟨268052600032300,1676250763249512,1344774212489870,1877856504985088,1551852259475401⟩⟩
def E4j:PN:=⟨⟨73949236156954,243328099540869,285103069684975,535059367582198,507523117579041⟩,⟨81762443123683,437772300968419,104708665526234,1600664443758511,2153009907310332⟩,⟨1,0,0,0,0⟩,⟨525185820960592,2109162826897277,1727597431782170,94579111876036,1943291465670801⟩⟩
def E4f:PN:=⟨⟨1007523394043953,877179782120715,750791257494571,1684193508924439,1481971162173362⟩,⟨892412035198752,724888969399762,189791939055799,650037373814668,58891993572333⟩,⟨1,0,0,0,0⟩,⟨2012424166711840,1051009010171064,985378134251402,340978745693086,76576796701879⟩⟩
def E7e:PN:=⟨⟨1221600705668234,422433434344282,1165451223563677,146148415932141,2233882774218833⟩,⟨27130515852506,1042767501773405,1627152082831711,2158630032433998,279351529642523⟩,⟨1,0,0,0,0⟩,⟨399543236321792,304278115101828,1696822803913734,1638181959782862,1187398200262185⟩⟩
def E2n:PN:=⟨⟨1707106071538538,1034947591101305,1883622717070250,2247368448221425,79795392053140⟩,⟨1911252298510640,413658976450780,1847058117559766,170234544819720,1035923066070357⟩,⟨1,0,0,0,0⟩,⟨1620168465800920,853903694194838,1629795986498023,449057437180843,773788728556441⟩⟩
def E6s:PN:=⟨⟨705317732516645,1259080967901750,110596001674658,152606910492821,257476921021274⟩,⟨2000400530866971,1099125665712498,1961944974262476,155981950177417,1046917659734111⟩,⟨1,0,0,0,0⟩,⟨730820343861142,1746061691430809,1882659248310344,918803715970310,1070778979244388⟩⟩
def E5b:PN:=⟨⟨798540852548237,1186388878089071,554557418141563,2038592377592718,488711206961541⟩,⟨833812069173299,646939731425630,1538221673810424,2137163637965756,1721356815521377⟩,⟨1,0,0,0,0⟩,⟨76009751102151,1911895294413367,1262509771121608,1445197895593765,460973337299855⟩⟩
def E4h:PN:=⟨⟨54500732029931,1229228649591394,1395999898189729,1718070411837384,1664301080442019⟩,⟨1903443165125547,559438718436641,993492825524625,534768921454925,1413903496556256⟩,⟨1,0,0,0,0⟩,⟨120803451939400,1228462511466555,1825422928562560,2073882328972608,1338393801812170⟩⟩
def E7s:PN:=⟨⟨2009719025433307,1338026402858380,368645885213984,1305913578656784,900000752165226⟩,⟨901384702181433,618421315369192,1461922630708682,1786955284772872,769606372041141⟩,⟨1,0,0,0,0⟩,⟨2237692444171697,2144656409190513,1435531634016049,1875943125805625,1458226165828182⟩⟩
def E3t:PN:=⟨⟨1290284552533580,149109026735730,152217355613238,1936628254954832,289514889573986⟩,⟨545116827004962,24791008572662,666030275103494,2077271970883202,731991509874304⟩,⟨1,0,0,0,0⟩,⟨682751199693311,2090280524683502,1447319815966402,753208601256438,2019644203483639⟩⟩
def E4r:PN:=⟨⟨66253276699711,1252511340070009,2001984381343139,1811095600397663,2073215811985677⟩,⟨1623460295322413,1593143032869612,1227910477134078,174031738331835,1854653122047196⟩,⟨1,0,0,0,0⟩,⟨378835871973892,862775089586864,2213372231758376,1367038889672674,1837642890635372⟩⟩
def E3f:PN:=⟨⟨855109427260935,1192666648398113,1070509169023896,49743400943463,2059455722217761⟩,⟨1868326402194645,1731588568080711,734486077860206,1792565842527341,1694206596449169⟩,⟨1,0,0,0,0⟩,⟨1030568103689263,1717414762294505,1289812983312952,428593515366431,1052052483814347⟩⟩
def E2l:PN:=⟨⟨1078783740036999,198946038155516,1242334275692922,1915693194367353,716690677826317⟩,⟨1158255922756604,2050076295205690,816279270940781,485560714163174,1498485971338264⟩,⟨1,0,0,0,0⟩,⟨949271686208484,1835219553732856,1146775173265892,2161931743141499,1913301798815708⟩⟩
def E3d:PN:=⟨⟨302555565364767,1820588068919652,772267205884354,1865066538047563,1551475371085944⟩,⟨1996585736328222,70826822300604,211627457424574,562895043924503,1826585557779011⟩,⟨1,0,0,0,0⟩,⟨338531462563851,1655232836796258,315301918780359,145172540828775,2195524900867729⟩⟩
theorem F0w:Q2 0 kL0=true:=by decide +kernel
theorem E9t:Q2 1 kL1=true:=by decide +kernel
theorem E9h:Q2 2 kL2=true:=by decide +kernel
theorem E9j:Q2 3 kL3=true:=by decide +kernel
theorem F1f:Q2 4 kL4=true:=by decide +kernel
theorem E9m:Q2 5 kL5=true:=by decide +kernel
theorem E9l:Q2 6 kL6=true:=by decide +kernel
theorem F0o:Q2 7 kL7=true:=by decide +kernel
theorem E9q:Q2 8 kL8=true:=by decide +kernel
theorem F1c:Q2 9 kL9=true:=by decide +kernel
theorem E7o:Q2 10 E3z=true:=by decide +kernel
theorem E3x:Q2 11 E6y=true:=by decide +kernel
theorem E4p:Q2 12 E4x=true:=by decide +kernel
theorem E6o:Q2 13 E2m=true:=by decide +kernel
theorem E2u:Q2 14 E4m=true:=by decide +kernel
theorem E3o:Q2 15 E7i=true:=by decide +kernel
theorem E6g:Q2 16 E4b=true:=by decide +kernel
theorem E4g:Q2 17 E3w=true:=by decide +kernel
theorem E6k:Q2 18 E5s=true:=by decide +kernel
theorem E7m:Q2 19 E4j=true:=by decide +kernel
theorem E6w:Q2 20 E4f=true:=by decide +kernel
theorem E5k:Q2 21 E7e=true:=by decide +kernel
theorem E7w:Q2 22 E2n=true:=by decide +kernel
theorem E4l:Q2 23 E6s=true:=by decide +kernel
theorem E6p:Q2 24 E5b=true:=by decide +kernel
theorem E5j:Q2 25 E4h=true:=by decide +kernel
theorem E3k:Q2 26 E7s=true:=by decide +kernel
theorem E2z:Q2 27 E3t=true:=by decide +kernel
theorem E6i:Q2 28 E4r=true:=by decide +kernel
theorem E7b:Q2 29 E3f=true:=by decide +kernel
theorem E7u:Q2 30 E2l=true:=by decide +kernel
theorem E4i:Q2 31 E3d=true:=by decide +kernel
def D9q:List PN:=[kL0,kL1,kL2,kL3,kL4,kL5,kL6,kL7,kL8,kL9,E3z,E6y,E4x,E2m,E4m,E7i,E4b,E3w,E5s,E4j,E4f,E7e,E2n,E6s,E5b,E4h,E7s,E3t,E4r,E3f,E2l,E3d]
theorem E6a:∀i,i<32→Ke i=uP (C2a D9q i):=by
 intro i hi;match i,hi with
 | 0,_=>exact M7 F0w
 | 1,_=>exact M7 E9t
 | 2,_=>exact M7 E9h
 | 3,_=>exact M7 E9j
 | 4,_=>exact M7 F1f
 | 5,_=>exact M7 E9m
 | 6,_=>exact M7 E9l
 | 7,_=>exact M7 F0o
 | 8,_=>exact M7 E9q
 | 9,_=>exact M7 F1c
 | 10,_=>exact M7 E7o
 | 11,_=>exact M7 E3x
 | 12,_=>exact M7 E4p
 | 13,_=>exact M7 E6o
 | 14,_=>exact M7 E2u
 | 15,_=>exact M7 E3o
 | 16,_=>exact M7 E6g
 | 17,_=>exact M7 E4g
 | 18,_=>exact M7 E6k
 | 19,_=>exact M7 E7m
 | 20,_=>exact M7 E6w
 | 21,_=>exact M7 E5k
 | 22,_=>exact M7 E7w
 | 23,_=>exact M7 E4l
 | 24,_=>exact M7 E6p
 | 25,_=>exact M7 E5j
 | 26,_=>exact M7 E3k
 | 27,_=>exact M7 E2z
 | 28,_=>exact M7 E6i
 | 29,_=>exact M7 E7b
 | 30,_=>exact M7 E7u
 | 31,_=>exact M7 E4i
 | n+32,h=>exact absurd h (by omega)
theorem C7f {n:List UInt8} {q:PN} {b:List UInt8} (h:A0c C6i D9q n 8=q) (e:(C0i q==b)=true):Gs (Uu Z1 n)=b:=by
 have h1:Uu Z1 n=A2v n:=B2x n (beq_self_eq_true _);rw[h1];show Gs (Bx n 8)=b;rw[B3p D8s E6a,h,D6a];exact eq_of_beq e
end
section
set_option maxRecDepth 100000
set_option maxHeartbeats 0
end
end Go.Proofs.YtmllnpokbbabhaaGreat
