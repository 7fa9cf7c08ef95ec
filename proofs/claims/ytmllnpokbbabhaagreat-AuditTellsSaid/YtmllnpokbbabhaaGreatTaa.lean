/- A part of the proof of AuditTells. -/
import Derived.WalkKit
import Derived.Deep.Draws
import Derived.Maps.AppendAt
import Derived.OwnWalk
import Derived.Deep.MidRow
import Derived.KernelRfl
import Derived.WalkLawsBesides
import Derived.Outline
import Derived.Lib.Hide
import Derived.Test.YtmllnpokbbabhaaGreatProg
set_option linter.unusedVariables false
set_option linter.unusedSimpArgs false
namespace Go.Proofs.YtmllnpokbbabhaaGreat
open Go.RowKit
theorem C2j (n x:Nat) (h:x<2 ^ n):x ^^^ (2 ^ n-1)=2 ^ n-(x+1):=by
 refine Nat.eq_of_testBit_eq fun i=>?_;rw[Nat.testBit_xor,Nat.testBit_two_pow_sub_succ h,Nat.testBit_two_pow_sub_one];by_cases hi:i<n
 ·simp[hi]
 ·have:x.testBit i=false:=Nat.testBit_lt_two_pow (Nat.lt_of_lt_of_le h (Nat.pow_le_pow_right (by omega) (by omega)));simp[hi,this]
def n8 (x:UInt8):Int:=(x.toNat:Int)
def Cg (x:UInt32):Int:=(x.toNat:Int)
def E6 (x:UInt64):Int:=(x.toNat:Int)
theorem A8s (n:Nat):IntKind.u8.wrap (n:Int)=((n % 256:Nat):Int):=by
 simp[IntKind.wrap,IntKind.bits,IntKind.signed]
theorem lt8 (x:UInt8):x.toNat<256:=UInt8.toNat_lt x
theorem C6y {x y:UInt8} (h:n8 x=n8 y):x=y:=by
 unfold n8 at h;exact UInt8.toNat_inj.1 (by omega)
section
variable (x y : UInt8)
@[go_sem ↓ high] theorem E3b : Op.intBits .and .u8 (n8 x) (n8 y) = pure (.int .u8 (n8 (x &&& y))) := by
 unfold n8;have h:=u8_and_nat x.toNat y.toNat (lt8 x) (lt8 y);rw[UInt8.toNat_and];exact congrArg (fun n=>pure (Value.int .u8 n)) h
@[go_sem ↓ high] theorem or8 : Op.intBits .or .u8 (n8 x) (n8 y) = pure (.int .u8 (n8 (x ||| y))) := by
 unfold n8;have h:=u8_or_nat x.toNat y.toNat (lt8 x) (lt8 y);rw[UInt8.toNat_or];exact congrArg (fun n=>pure (Value.int .u8 n)) h
@[go_sem ↓ high] theorem E9o : Op.intArith .add .u8 (n8 x) (n8 y) = pure (.int .u8 (n8 (x + y))) := by
 unfold Op.intArith n8;rw[show (x.toNat:Int)+(y.toNat:Int)=((x.toNat+y.toNat:Nat):Int) from by omega];simp only[A8s];rw[UInt8.toNat_add]
@[go_sem ↓ high] theorem Uw (k : IntKind) (s : Nat) (hs : s < 8) : Op.shift .shr .u8 (n8 x) k (s : Int) = pure (.int .u8 (n8 (x >>> UInt8.ofNat s))) := by
 unfold Op.shift n8;rw[if_neg (by omega)];have hm:min s 8=s:=by omega
 have aA:(UInt8.ofNat s).toNat % 8=s:=by rw[UInt8.toNat_ofNat'];omega
 simp only[IntKind.bits,Int.toNat_natCast,hm,UInt8.toNat_shiftRight,aA,Nat.shiftRight_eq_div_pow];congr 2;rw[show ((2:Int) ^ s)=((2 ^ s:Nat):Int) from by simp];rw[Int.fdiv_eq_ediv_of_nonneg _ (Int.natCast_nonneg _)];rw[Int.natCast_ediv]
@[go_sem ↓ high] theorem E4t (k : IntKind) (s : Nat) (hs : s < 8) : Op.shift .shl .u8 (n8 x) k (s : Int) = pure (.int .u8 (n8 (x <<< UInt8.ofNat s))) := by
 unfold Op.shift n8;rw[if_neg (by omega)];have hm:min s 8=s:=by omega
 have aA:(UInt8.ofNat s).toNat % 8=s:=by rw[UInt8.toNat_ofNat'];omega
 simp only[IntKind.bits,Int.toNat_natCast,hm,UInt8.toNat_shiftLeft,aA,Nat.shiftLeft_eq];rw[show (x.toNat:Int)*((2:Int) ^ s)=((x.toNat*2 ^ s:Nat):Int) from by simp];rw[A8s]
theorem Wu:(n8 x==n8 y)=(x==y):=by
 rw[Bool.eq_iff_iff];simp only[beq_iff_eq];exact ⟨C6y,fun h=>by rw[h]⟩
end
theorem A0e (n:Nat):IntKind.u32.wrap (n:Int)=((n % 4294967296:Nat):Int):=by
 simp[IntKind.wrap,IntKind.bits,IntKind.signed]
theorem A9k (x:UInt32):x.toNat<4294967296:=UInt32.toNat_lt x
section
variable (x y : UInt32)
@[go_sem ↓ high] theorem F1h : Op.intBits .and .u32 (Cg x) (Cg y) = pure (.int .u32 (Cg (x &&& y))) := by
 unfold Cg;have h:=u32_and_nat x.toNat y.toNat (A9k x) (A9k y);rw[UInt32.toNat_and];exact congrArg (fun n=>pure (Value.int .u32 n)) h
@[go_sem ↓ high] theorem F1l : Op.intBits .or .u32 (Cg x) (Cg y) = pure (.int .u32 (Cg (x ||| y))) := by
 unfold Cg;have h:=u32_or_nat x.toNat y.toNat (A9k x) (A9k y);rw[UInt32.toNat_or];exact congrArg (fun n=>pure (Value.int .u32 n)) h
@[go_sem ↓ high] theorem F1g : Op.intBits .xor .u32 (Cg x) (Cg y) = pure (.int .u32 (Cg (x ^^^ y))) := by
 unfold Cg;have h:=u32_xor_nat x.toNat y.toNat (A9k x) (A9k y);rw[UInt32.toNat_xor];exact congrArg (fun n=>pure (Value.int .u32 n)) h
@[go_sem ↓ high] theorem add32 : Op.intArith .add .u32 (Cg x) (Cg y) = pure (.int .u32 (Cg (x + y))) := by
 unfold Op.intArith Cg;rw[show (x.toNat:Int)+(y.toNat:Int)=((x.toNat+y.toNat:Nat):Int) from by omega];simp only[A0e];rw[UInt32.toNat_add]
@[go_sem high] theorem F1i : Op.unary .xor (.int .u32 (Cg x)) = pure (.int .u32 (Cg (~~~x))) := by
 have h:=u32_xor_nat 4294967295 x.toNat (by decide) (A9k x);have e:Op.unary .xor (.int .u32 (x.toNat:Int))=pure (.int .u32 (bits .xor .u32 (4294967295:Nat) (x.toNat:Int))):=rfl;unfold Cg;rw[e,h,UInt32.toNat_not,Nat.xor_comm];congr 3;have hl:=A9k x;have e2:x.toNat ^^^ 4294967295=4294967296-(x.toNat+1):=C2j 32 x.toNat hl;rw[show UInt32.size=4294967296 from rfl];omega
@[go_sem ↓ high] theorem A2r (k : IntKind) (s : Nat) (hs : s < 32) : Op.shift .shr .u32 (Cg x) k (s : Int) = pure (.int .u32 (Cg (x >>> UInt32.ofNat s))) := by
 unfold Op.shift Cg;rw[if_neg (by omega)];have hm:min s 32=s:=by omega
 have aA:(UInt32.ofNat s).toNat % 32=s:=by rw[UInt32.toNat_ofNat'];omega
 simp only[IntKind.bits,Int.toNat_natCast,hm,UInt32.toNat_shiftRight,aA,Nat.shiftRight_eq_div_pow];congr 2;rw[show ((2:Int) ^ s)=((2 ^ s:Nat):Int) from by simp];rw[Int.fdiv_eq_ediv_of_nonneg _ (Int.natCast_nonneg _)];rw[Int.natCast_ediv]
@[go_sem ↓ high] theorem B9e (k : IntKind) (s : Nat) (hs : s < 32) : Op.shift .shl .u32 (Cg x) k (s : Int) = pure (.int .u32 (Cg (x <<< UInt32.ofNat s))) := by
 unfold Op.shift Cg;rw[if_neg (by omega)];have hm:min s 32=s:=by omega
 have aA:(UInt32.ofNat s).toNat % 32=s:=by rw[UInt32.toNat_ofNat'];omega
 simp only[IntKind.bits,Int.toNat_natCast,hm,UInt32.toNat_shiftLeft,aA,Nat.shiftLeft_eq];rw[show (x.toNat:Int)*((2:Int) ^ s)=((x.toNat*2 ^ s:Nat):Int) from by simp];rw[A0e]
end
theorem Ep (n:Nat):IntKind.u64.wrap (n:Int)=((n % 18446744073709551616:Nat):Int):=by
 simp[IntKind.wrap,IntKind.bits,IntKind.signed]
theorem Ll (x:UInt64):x.toNat<18446744073709551616:=UInt64.toNat_lt x
theorem B0n {x y:UInt64} (h:E6 x=E6 y):x=y:=by
 unfold E6 at h;exact UInt64.toNat_inj.1 (by omega)
section
variable (x y : UInt64)
@[go_sem ↓ high] theorem C7l : Op.intBits .and .u64 (E6 x) (E6 y) = pure (.int .u64 (E6 (x &&& y))) := by
 unfold E6;have h:=u64_and_nat x.toNat y.toNat (Ll x) (Ll y);rw[UInt64.toNat_and];exact congrArg (fun n=>pure (Value.int .u64 n)) h
@[go_sem ↓ high] theorem F0b : Op.intBits .or .u64 (E6 x) (E6 y) = pure (.int .u64 (E6 (x ||| y))) := by
 unfold E6;have h:=u64_or_nat x.toNat y.toNat (Ll x) (Ll y);rw[UInt64.toNat_or];exact congrArg (fun n=>pure (Value.int .u64 n)) h
@[go_sem ↓ high] theorem F1j : Op.intBits .xor .u64 (E6 x) (E6 y) = pure (.int .u64 (E6 (x ^^^ y))) := by
 unfold E6;have h:=u64_xor_nat x.toNat y.toNat (Ll x) (Ll y);rw[UInt64.toNat_xor];exact congrArg (fun n=>pure (Value.int .u64 n)) h
@[go_sem ↓ high] theorem add64 : Op.intArith .add .u64 (E6 x) (E6 y) = pure (.int .u64 (E6 (x + y))) := by
 unfold Op.intArith E6;rw[show (x.toNat:Int)+(y.toNat:Int)=((x.toNat+y.toNat:Nat):Int) from by omega];simp only[Ep];rw[UInt64.toNat_add]
@[go_sem ↓ high] theorem D8d : Op.intArith .mul .u64 (E6 x) (E6 y) = pure (.int .u64 (E6 (x * y))) := by
 unfold Op.intArith E6;rw[show (x.toNat:Int)*(y.toNat:Int)=((x.toNat*y.toNat:Nat):Int) from by simp];simp only[Ep];rw[UInt64.toNat_mul]
@[go_sem high] theorem F1k : Op.unary .xor (.int .u64 (E6 x)) = pure (.int .u64 (E6 (~~~x))) := by
 have h:=u64_xor_nat 18446744073709551615 x.toNat (by decide) (Ll x);have e:Op.unary .xor (.int .u64 (x.toNat:Int))=pure (.int .u64 (bits .xor .u64 (18446744073709551615:Nat) (x.toNat:Int))):=rfl;unfold E6;rw[e,h,UInt64.toNat_not,Nat.xor_comm];congr 3;have hl:=Ll x;have e2:x.toNat ^^^ 18446744073709551615=18446744073709551616-(x.toNat+1):=C2j 64 x.toNat hl;rw[show UInt64.size=18446744073709551616 from rfl];omega
@[go_sem ↓ high] theorem Fr (k : IntKind) (s : Nat) (hs : s < 64) : Op.shift .shr .u64 (E6 x) k (s : Int) = pure (.int .u64 (E6 (x >>> UInt64.ofNat s))) := by
 unfold Op.shift E6;rw[if_neg (by omega)];have hm:min s 64=s:=by omega
 have aA:(UInt64.ofNat s).toNat % 64=s:=by rw[UInt64.toNat_ofNat'];omega
 simp only[IntKind.bits,Int.toNat_natCast,hm,UInt64.toNat_shiftRight,aA,Nat.shiftRight_eq_div_pow];congr 2;rw[show ((2:Int) ^ s)=((2 ^ s:Nat):Int) from by simp];rw[Int.fdiv_eq_ediv_of_nonneg _ (Int.natCast_nonneg _)];rw[Int.natCast_ediv]
@[go_sem ↓ high] theorem A8m (k : IntKind) (s : Nat) (hs : s < 64) : Op.shift .shl .u64 (E6 x) k (s : Int) = pure (.int .u64 (E6 (x <<< UInt64.ofNat s))) := by
 unfold Op.shift E6;rw[if_neg (by omega)];have hm:min s 64=s:=by omega
 have aA:(UInt64.ofNat s).toNat % 64=s:=by rw[UInt64.toNat_ofNat'];omega
 simp only[IntKind.bits,Int.toNat_natCast,hm,UInt64.toNat_shiftLeft,aA,Nat.shiftLeft_eq];rw[show (x.toNat:Int)*((2:Int) ^ s)=((x.toNat*2 ^ s:Nat):Int) from by simp];rw[Ep]
theorem D3y:(E6 x==E6 y)=(x==y):=by
 rw[Bool.eq_iff_iff];simp only[beq_iff_eq];exact ⟨B0n,fun h=>by rw[h]⟩
theorem D3z:(E6 x != E6 y)=(x != y):=by simp only[bne,D3y]
end
@[go_sem ↓ high] theorem F0y (x : UInt8) (k : IntKind) : Op.shift .shr .u8 (n8 x) k 1 = pure (.int .u8 (n8 (x >>> 1))) := Uw x k 1 (by decide)
@[go_sem ↓ high] theorem F0u (x : UInt8) (k : IntKind) : Op.shift .shr .u8 (n8 x) k 2 = pure (.int .u8 (n8 (x >>> 2))) := Uw x k 2 (by decide)
@[go_sem ↓ high] theorem E9r (x : UInt8) (k : IntKind) : Op.shift .shr .u8 (n8 x) k 3 = pure (.int .u8 (n8 (x >>> 3))) := Uw x k 3 (by decide)
@[go_sem ↓ high] theorem F0l (x : UInt8) (k : IntKind) : Op.shift .shr .u8 (n8 x) k 4 = pure (.int .u8 (n8 (x >>> 4))) := Uw x k 4 (by decide)
@[go_sem ↓ high] theorem F0r (x : UInt8) (k : IntKind) : Op.shift .shl .u8 (n8 x) k 4 = pure (.int .u8 (n8 (x <<< 4))) := E4t x k 4 (by decide)
@[go_sem ↓ high] theorem E9i (x : UInt8) (k : IntKind) : Op.shift .shr .u8 (n8 x) k 5 = pure (.int .u8 (n8 (x >>> 5))) := Uw x k 5 (by decide)
@[go_sem ↓ high] theorem F0p (x : UInt8) (k : IntKind) : Op.shift .shr .u8 (n8 x) k 6 = pure (.int .u8 (n8 (x >>> 6))) := Uw x k 6 (by decide)
@[go_sem ↓ high] theorem E9v (x : UInt8) (k : IntKind) : Op.shift .shr .u8 (n8 x) k 7 = pure (.int .u8 (n8 (x >>> 7))) := Uw x k 7 (by decide)
@[go_sem ↓ high] theorem E8x (x : UInt32) (k : IntKind) : Op.shift .shr .u32 (Cg x) k 3 = pure (.int .u32 (Cg (x >>> 3))) := A2r x k 3 (by decide)
@[go_sem ↓ high] theorem E9g (x : UInt32) (k : IntKind) : Op.shift .shr .u32 (Cg x) k 8 = pure (.int .u32 (Cg (x >>> 8))) := A2r x k 8 (by decide)
@[go_sem ↓ high] theorem E8n (x : UInt32) (k : IntKind) : Op.shift .shl .u32 (Cg x) k 8 = pure (.int .u32 (Cg (x <<< 8))) := B9e x k 8 (by decide)
@[go_sem ↓ high] theorem E7r (x : UInt32) (k : IntKind) : Op.shift .shr .u32 (Cg x) k 10 = pure (.int .u32 (Cg (x >>> 10))) := A2r x k 10 (by decide)
@[go_sem ↓ high] theorem E4y (x : UInt32) (k : IntKind) : Op.shift .shr .u32 (Cg x) k 16 = pure (.int .u32 (Cg (x >>> 16))) := A2r x k 16 (by decide)
@[go_sem ↓ high] theorem E6u (x : UInt32) (k : IntKind) : Op.shift .shl .u32 (Cg x) k 16 = pure (.int .u32 (Cg (x <<< 16))) := B9e x k 16 (by decide)
@[go_sem ↓ high] theorem E5r (x : UInt32) (k : IntKind) : Op.shift .shr .u32 (Cg x) k 24 = pure (.int .u32 (Cg (x >>> 24))) := A2r x k 24 (by decide)
@[go_sem ↓ high] theorem E4k (x : UInt32) (k : IntKind) : Op.shift .shl .u32 (Cg x) k 24 = pure (.int .u32 (Cg (x <<< 24))) := B9e x k 24 (by decide)
@[go_sem ↓ high] theorem E7y (x : UInt64) (k : IntKind) : Op.shift .shr .u64 (E6 x) k 0 = pure (.int .u64 (E6 (x >>> 0))) := Fr x k 0 (by decide)
@[go_sem ↓ high] theorem E8t (x : UInt64) (k : IntKind) : Op.shift .shr .u64 (E6 x) k 6 = pure (.int .u64 (E6 (x >>> 6))) := Fr x k 6 (by decide)
@[go_sem ↓ high] theorem E8h (x : UInt64) (k : IntKind) : Op.shift .shr .u64 (E6 x) k 7 = pure (.int .u64 (E6 (x >>> 7))) := Fr x k 7 (by decide)
@[go_sem ↓ high] theorem E8p (x : UInt64) (k : IntKind) : Op.shift .shr .u64 (E6 x) k 8 = pure (.int .u64 (E6 (x >>> 8))) := Fr x k 8 (by decide)
@[go_sem ↓ high] theorem E9a (x : UInt64) (k : IntKind) : Op.shift .shl .u64 (E6 x) k 8 = pure (.int .u64 (E6 (x <<< 8))) := A8m x k 8 (by decide)
@[go_sem ↓ high] theorem E2s (x : UInt64) (k : IntKind) : Op.shift .shr .u64 (E6 x) k 16 = pure (.int .u64 (E6 (x >>> 16))) := Fr x k 16 (by decide)
@[go_sem ↓ high] theorem E4a (x : UInt64) (k : IntKind) : Op.shift .shr .u64 (E6 x) k 24 = pure (.int .u64 (E6 (x >>> 24))) := Fr x k 24 (by decide)
@[go_sem ↓ high] theorem E2o (x : UInt64) (k : IntKind) : Op.shift .shr .u64 (E6 x) k 32 = pure (.int .u64 (E6 (x >>> 32))) := Fr x k 32 (by decide)
@[go_sem ↓ high] theorem E6v (x : UInt64) (k : IntKind) : Op.shift .shr .u64 (E6 x) k 40 = pure (.int .u64 (E6 (x >>> 40))) := Fr x k 40 (by decide)
@[go_sem ↓ high] theorem E7g (x : UInt64) (k : IntKind) : Op.shift .shr .u64 (E6 x) k 48 = pure (.int .u64 (E6 (x >>> 48))) := Fr x k 48 (by decide)
@[go_sem ↓ high] theorem E5h (x : UInt64) (k : IntKind) : Op.shift .shr .u64 (E6 x) k 56 = pure (.int .u64 (E6 (x >>> 56))) := Fr x k 56 (by decide)
@[go_sem high] theorem E4c (x : UInt8) : IntKind.u32.wrap (n8 x) = Cg x.toUInt32 := by
 unfold n8 Cg;rw[A0e];have:=lt8 x;simp<;>omega
@[go_sem high] theorem C8l (x : UInt8) : IntKind.u64.wrap (n8 x) = E6 x.toUInt64 := by
 unfold n8 E6;rw[Ep];have:=lt8 x;simp<;>omega
@[go_sem high] theorem E2j (x : UInt32) : IntKind.u8.wrap (Cg x) = n8 x.toUInt8 := by
 unfold Cg n8;rw[A8s];have:=A9k x;simp<;>omega
@[go_sem high] theorem C7c (x : UInt64) : IntKind.u8.wrap (E6 x) = n8 x.toUInt8 := by
 unfold E6 n8;rw[A8s];have:=Ll x;simp<;>omega
@[go_sem high] theorem E2e (x : UInt64) : IntKind.u32.wrap (E6 x) = Cg x.toUInt32 := by
 unfold E6 Cg;rw[A0e];have:=Ll x;simp<;>omega
@[go_sem ↓ high] theorem E8l (x : UInt64) : Op.intArith .mul .u64 8 (E6 x) = pure (.int .u64 (E6 (8 * x))) := D8d 8 x
end Go.Proofs.YtmllnpokbbabhaaGreat
namespace Go.Proofs.YtmllnpokbbabhaaGreat
namespace Sh
def Z4:List UInt64:=[
 4794697086780616226,8158064640168781261,13096744586834688815,16840607885511220156,4131703408338449720,6480981068601479193,10538285296894168987,12329834152419229976,15566598209576043074,1334009975649890238,2608012711638119052,6128411473006802146,8268148722764581231,9286055187155687089,11230858885718282805,13951009754708518548,16472876342353939154,17275323862435702243,1135362057144423861,2597628984639134821,3308224258029322869,5365058923640841347,6679025012923562964,8573033837759648693,10970295158949994411,12119686244451234320,12683024718118986047,13788192230050041572,14330467153632333762,15395433587784984357,489312712824947311,1452737877330783856,2861767655752347644,3322285676063803686,5560940570517711597,5996557281743188959,7280758554555802590,8532644243296465576,9350256976987008742,10552545826968843579,11727347734174303076,12113106623233404929,14000437183269869457,14369950271660146224,15101387698204529176,15463397548674623760,17586052441742319658,1182934255886127544,1847814050463011016,2177327727835720531,2830643537854262169,3796741975233480872,4115178125766777443,5681478168544905931,6601373596472566643,7507060721942968483,8399075790359081724,8693463985226723168,9568029438360202098,10144078919501101548,10430055236837252648,11840083180663258601,13761210420658862357,14299343276471374635,14566680578165727644,15097957966210449927,16922976911328602910,17689382322260857208,500013540394364858,748580250866718886,1242879168328830382,1977374033974150939,2944078676154940804,3659926193048069267,4368137639120453308,4836135668995329356,5532061633213252278,6448918945643986474,6902733635092675308,7801388544844847127]
def Bc:List UInt64:=[
 7640891576956012808,13503953896175478587,4354685564936845355,11912009170470909681,5840696475078001361,11170449401992604703,2270897969802886507,6620516959819538809]
def g8 (l:List UInt8) (i:Nat):UInt8:=l.getD i 0
def Cw (l:List UInt32) (i:Nat):UInt32:=l.getD i 0
def E0 (l:List UInt64) (i:Nat):UInt64:=l.getD i 0
def Ip (x:UInt32) (k:Int):UInt32:=x <<< UInt32.ofNat (32+k).toNat ||| x >>> UInt32.ofNat (-k).toNat
def Hy (x:UInt64) (k:Int):UInt64:=x <<< UInt64.ofNat (64+k).toNat ||| x >>> UInt64.ofNat (-k).toNat
def J8 (n:UInt64):List UInt8:=[(n >>> 56).toUInt8,(n >>> 48).toUInt8,(n >>> 40).toUInt8,(n >>> 32).toUInt8,(n >>> 24).toUInt8,(n >>> 16).toUInt8,(n >>> 8).toUInt8,n.toUInt8]
def A6d (block n:Nat):Nat:=(block-(n+1+block / 8) % block) % block
def pad (block:Nat) (l:List UInt8):List UInt8:=
 l++[128]++List.replicate (A6d block l.length) 0++List.replicate (block / 8-8) 0++J8 (8*UInt64.ofNat l.length)
def A2x (b:List UInt8) (t:Nat):UInt32:=((g8 b (4*t)).toUInt32 <<< 24 ||| (g8 b (4*t+1)).toUInt32 <<< 16 ||| (g8 b (4*t+2)).toUInt32 <<< 8 ||| (g8 b (4*t+3)).toUInt32)
def A8b (y m x l:UInt32):UInt32:=(Ip y (-17) ^^^ Ip y (-19) ^^^ y >>> 10)+m+(Ip x (-7) ^^^ Ip x (-18) ^^^ x >>> 3)+l
def Zv (b:List UInt8):Nat→List UInt32
 | 0=>[]
 | t+1=>Zv b t++[if t<16 then A2x b t else
  A8b (Cw (Zv b t) (t-2)) (Cw (Zv b t) (t-7)) (Cw (Zv b t) (t-15)) (Cw (Zv b t) (t-16))]
def E3j (v:List UInt32) (k m:UInt32):UInt32:=
 let e:=Cw v 4
 Cw v 7+(Ip e (-6) ^^^ Ip e (-11) ^^^ Ip e (-25))+(e &&& Cw v 5 ^^^ ~~~e &&& Cw v 6)+k+m
def F1b (v:List UInt32):UInt32:=
 let a:=Cw v 0
 (Ip a (-2) ^^^ Ip a (-13) ^^^ Ip a (-22))+(a &&& Cw v 1 ^^^ a &&& Cw v 2 ^^^ Cw v 1 &&& Cw v 2)
def A9v (v:List UInt32) (k m:UInt32):List UInt32:=
 [E3j v k m+F1b v,Cw v 0,Cw v 1,Cw v 2,Cw v 3+E3j v k m,Cw v 4,Cw v 5,Cw v 6]
def K32 (t:Nat):UInt32:=((E0 Z4 t) >>> 32).toUInt32
def Jn (h W:List UInt32):Nat→List UInt32
 | 0=>h
 | t+1=>A9v (Jn h W t) (K32 t) (Cw W t)
def add32 (h v:List UInt32):List UInt32:=List.zipWith (· + ·) h v
def A0i (h:List UInt32) (b:List UInt8):List UInt32:=add32 h (Jn h (Zv b 64) 64)
def O7 (p:List UInt8):Nat→List UInt32
 | 0=>Bc.map fun (r:UInt64)=>(r >>> 32).toUInt32
 | i+1=>A0i (O7 p i) (p.drop (64*i))
def Vu (x:UInt32):List UInt8:=[(x >>> 24).toUInt8,(x >>> 16).toUInt8,(x >>> 8).toUInt8,x.toUInt8]
def Dx (h:List UInt32):List UInt8:=h.flatMap Vu
def Jt (l:List UInt8):List UInt8:=Dx (O7 (pad 64 l) ((pad 64 l).length / 64))
def A2z (b:List UInt8) (t:Nat):UInt64:=((b.drop (8*t)).take 8).foldl (fun m x=>m <<< 8 ||| x.toUInt64) 0
def B0c (y m x l:UInt64):UInt64:=(Hy y (-19) ^^^ Hy y (-61) ^^^ y >>> 6)+m+(Hy x (-1) ^^^ Hy x (-8) ^^^ x >>> 7)+l
def W64 (b:List UInt8):Nat→List UInt64
 | 0=>[]
 | t+1=>W64 b t++[if t<16 then A2z b t else
  B0c (E0 (W64 b t) (t-2)) (E0 (W64 b t) (t-7)) (E0 (W64 b t) (t-15)) (E0 (W64 b t) (t-16))]
def E7l (v:List UInt64) (k m:UInt64):UInt64:=
 let e:=E0 v 4
 E0 v 7+(Hy e (-14) ^^^ Hy e (-18) ^^^ Hy e (-41))+(e &&& E0 v 5 ^^^ ~~~e &&& E0 v 6)+k+m
def E9y (v:List UInt64):UInt64:=
 let a:=E0 v 0
 (Hy a (-28) ^^^ Hy a (-34) ^^^ Hy a (-39))+(a &&& E0 v 1 ^^^ a &&& E0 v 2 ^^^ E0 v 1 &&& E0 v 2)
def B0b (v:List UInt64) (k m:UInt64):List UInt64:=
 [E7l v k m+E9y v,E0 v 0,E0 v 1,E0 v 2,E0 v 3+E7l v k m,E0 v 4,E0 v 5,E0 v 6]
def K64 (t:Nat):UInt64:=E0 Z4 t
def Jj (h W:List UInt64):Nat→List UInt64
 | 0=>h
 | t+1=>B0b (Jj h W t) (K64 t) (E0 W t)
def add64 (h v:List UInt64):List UInt64:=List.zipWith (· + ·) h v
def A0m (h:List UInt64) (b:List UInt8):List UInt64:=add64 h (Jj h (W64 b 80) 80)
def M8 (p:List UInt8):Nat→List UInt64
 | 0=>Bc
 | i+1=>A0m (M8 p i) (p.drop (128*i))
def Mq (x:UInt64):List UInt8:=J8 x
def Ex (h:List UInt64):List UInt8:=h.flatMap Mq
def Yz (l:List UInt8):List UInt8:=Ex (M8 (pad 128 l) ((pad 128 l).length / 128))
theorem B8v (b:List UInt8) (k:Nat):(Zv b k).length=k:=by
 induction k with
 | zero=>rfl
 | succ k ih=>simp[Zv,ih]
theorem B7i (b:List UInt8) (k:Nat):(W64 b k).length=k:=by
 induction k with
 | zero=>rfl
 | succ k ih=>simp[W64,ih]
theorem Qc (h W:List UInt32) (hh:h.length=8) (k:Nat):(Jn h W k).length=8:=by
 cases k with
 | zero=>exact hh
 | succ k=>simp[Jn,A9v]
theorem Pu (h W:List UInt64) (hh:h.length=8) (k:Nat):(Jj h W k).length=8:=by
 cases k with
 | zero=>exact hh
 | succ k=>simp[Jj,B0b]
theorem It (p:List UInt8) (i:Nat):(O7 p i).length=8:=by
 induction i with
 | zero=>simp[O7,Bc]
 | succ i ih=>simp[O7,A0i,add32,Qc _ _ ih,ih]
theorem Ih (p:List UInt8) (i:Nat):(M8 p i).length=8:=by
 induction i with
 | zero=>simp[M8,Bc]
 | succ i ih=>simp[M8,A0m,add64,Pu _ _ ih,ih]
theorem Gz (h:List UInt32):(Dx h).length=4*h.length:=by
 unfold Dx;induction h with
 | nil=>rfl
 | cons x h ih=>simp[Vu]at ih ⊢;omega
theorem Gx (h:List UInt64):(Ex h).length=8*h.length:=by
 unfold Ex;induction h with
 | nil=>rfl
 | cons x h ih=>simp[Mq,J8]at ih ⊢;omega
theorem Db (l:List UInt8):(Jt l).length=32:=by unfold Jt;rw[Gz,It]
theorem Vg (l:List UInt8):(Yz l).length=64:=by unfold Yz;rw[Gx,Ih]
theorem C0m (l:List UInt8):(pad 64 l).length % 64=0∧(pad 128 l).length % 128=0:=by
 simp[pad,A6d,J8];omega
end Sh
end Go.Proofs.YtmllnpokbbabhaaGreat
namespace Go.Proofs.YtmllnpokbbabhaaGreat
open Go Go.RowKit
def v8 (x:UInt8):Value:=.int .u8 (n8 x)
def v32 (x:UInt32):Value:=.int .u32 (Cg x)
def Wr (x:UInt64):Value:=.int .u64 (E6 x)
theorem Tt (a:Addr) (n:Nat):(a.add n).block=a.block:=by unfold Addr.add;split<;>rfl
theorem D0c (a:Addr) (i j:Nat):(a.add i).add j=a.add (i+j):=by
 unfold Addr.add;by_cases hi:i=0<;>by_cases hj:j=0<;>simp[hi,hj,Nat.add_assoc]
theorem P9 (g o n:Nat):(⟨g,o,none⟩:Addr).add n=⟨g,o+n,none⟩:=by unfold Addr.add;split<;>simp_all
def Bk (w:World) (g:Nat) (t:TypeId) (cs:List Value):Prop:=w.heap[g]?=some (.cells cs.toArray t (0,0))
section
variable {w w' : World} {g : Nat} {t : TypeId} {cs : List Value}
theorem Bk.lt (h:Bk w g t cs):g<w.heap.size:=by
 rcases Nat.lt_or_ge g w.heap.size with hlt | hge
 ·exact hlt
 ·unfold Bk at h;rw[Array.getElem?_eq_none hge]at h;cases h
theorem Bk.cell (h:Bk w g t cs) (i:Nat):w.cell? ⟨g,i,none⟩=cs[i]?:=by
 rw[cell_of_row w g i _ t (0,0) h];simp
theorem Bk.at_ (h:Bk w g t cs) {i:Nat} {u:Value} (hi:cs[i]?=some u):w.cell? ⟨g,i,none⟩=some u:=by rw[h.cell,hi]
theorem Bk.frozen (h:Bk w g t cs) (i:Nat):w.frozen? ⟨g,i,none⟩=false:=by
 unfold Bk at h;simp[World.frozen?,h]
theorem Bk.new (w:World) (t:TypeId) (cs:List Value):Bk (w.alloc (.cells cs.toArray t)) w.heap.size t cs:=heap_alloc_new w _
theorem Bk.drew (h:Bk w g t cs):Bk w.drew g t cs:=h
theorem Bk.drewN (h:Bk w g t cs) (n:Nat):Bk (w.drewN n) g t cs:=h
theorem Bk.alloc (h:Bk w g t cs) (o:Obj):Bk (w.alloc o) g t cs:=(Below.heap_alloc w o g h.lt).trans h
theorem Bk.set_ (h:Bk w g t cs) (i:Nat) (u:Value):Bk (w.setCell ⟨g,i,none⟩ u) g t (cs.set i u):=by
 unfold Bk at h ⊢;simp[World.setCell,Array.getElem?_modify,h]
theorem Bk.far (h:Bk w g t cs) {p:Addr} (hp:g≠p.block) (u:Value):Bk (w.setCell p u) g t cs:=(Below.heap_setCell w p u g hp).trans h
theorem Bk.below {B:Nat} (h:Bk w g t cs) (hb:Below B w w') (hg:g<B):Bk w' g t cs:=(hb.block g hg).trans h
theorem Bk.grown {row:Option Nat} (h:Bk w g t cs) (hb:w.grownBy w' row) (hg:some g≠row):Bk w' g t cs:=(hb.block g h.lt hg).trans h
end
theorem P7 {B:Nat} {a w:World} (h:Below B a w) (n:Nat):Below B a (w.drewN n):=⟨h.os,h.tape,h.output,h.size,h.block⟩
def Qz (lo hi:Nat) (w w':World):Prop:=∀k,lo≤k→k<hi→w'.heap[k]?=w.heap[k]?
section
variable {lo hi : Nat} {a w w' : World}
theorem Qz.refl (lo hi:Nat) (w:World):Qz lo hi w w:=fun _ _ _=>rfl
theorem Qz.below {B:Nat} (h:Below B w w') (hB:hi≤B):Qz lo hi w w':=fun k _ h2=>h.block k (by omega)
theorem Qz.drewN (h:Qz lo hi a w) (n:Nat):Qz lo hi a (w.drewN n):=h
theorem Qz.alloc (h:Qz lo hi a w) (hs:hi≤w.heap.size) (o:Obj):Qz lo hi a (w.alloc o):=fun k h1 h2=>(Below.heap_alloc w o k (by omega)).trans (h k h1 h2)
theorem Qz.setCell (h:Qz lo hi a w) {p:Addr} (hp:p.block<lo∨hi≤p.block) (u:Value):Qz lo hi a (w.setCell p u):=fun k h1 h2=>(Below.heap_setCell w p u k (by omega)).trans (h k h1 h2)
theorem Qz.cell (h:Qz lo hi w w') {p:Addr} (h1:lo≤p.block) (h2:p.block<hi):w'.cell? p=w.cell? p:=World.cell?_of_block (h _ h1 h2)
end
def Rd (w:World) (lo B:Nat) (A:Option Addr) (cs:List Value):Prop:=
 cs=[]∨∃g o,A=some ⟨g,o,none⟩∧lo≤g∧g<B∧∀j u,cs[j]?=some u→w.cell? ⟨g,o+j,none⟩=some u
section
variable {w w' : World} {lo lo' B B' : Nat} {A : Option Addr} {cs : List Value}
theorem Rd.keep (h:Rd w lo B A cs) (hk:∀p:Addr,lo≤p.block→p.block<B→w'.cell? p=w.cell? p):Rd w' lo B A cs:=by
 rcases h with h | ⟨g,o,e,hl,hb,hc⟩
 ·exact .inl h
 ·exact .inr ⟨g,o,e,hl,hb,fun j u hu=>(hk _ hl hb).trans (hc j u hu)⟩
theorem Rd.more (h:Rd w lo B A cs) (hB:B≤B'):Rd w lo B' A cs:=by
 rcases h with h | ⟨g,o,e,hl,hb,hc⟩
 ·exact .inl h
 ·exact .inr ⟨g,o,e,hl,by omega,hc⟩
theorem Rd.less (h:Rd w lo B A cs) (hl':lo'≤lo):Rd w lo' B A cs:=by
 rcases h with h | ⟨g,o,e,hl,hb,hc⟩
 ·exact .inl h
 ·exact .inr ⟨g,o,e,by omega,hb,hc⟩
theorem Rd.below (h:Rd w lo B A cs) (hb:Below B w w'):Rd w' lo B A cs:=h.keep fun _ _ hp=>hb.cell hp
theorem Rd.some (h:Rd w lo B A cs) (hn:0<cs.length):∃g o,A=some ⟨g,o,none⟩∧lo≤g∧g<B∧∀j u,cs[j]?=some u→w.cell? ⟨g,o+j,none⟩=some u:=by
 rcases h with h | h
 ·rw[h]at hn;cases hn
 ·exact h
theorem Rd.cut (h:Rd w lo B A cs) {k cap:Nat} (hc:cs.length≤cap) :
 Rd w lo B (if cap=k then A else A.map (·.add k)) (cs.drop k):=by
 rcases Nat.lt_or_ge k cs.length with hlt | hge
 ·obtain⟨g,o,rfl,hl,hb,aA⟩:=h.some (by omega);rw[if_neg (by omega)];refine .inr ⟨g,o+k,by simp[P9],hl,hb,fun j u hu=>?_⟩;rw[List.getElem?_drop]at hu;rw[Nat.add_assoc];exact aA _ u hu
 ·exact .inl (List.drop_eq_nil_of_le hge)
theorem Rd.take (h:Rd w lo B A cs) (k:Nat):Rd w lo B A (cs.take k):=by
 rcases h with h | ⟨g,o,e,hl,hb,hc⟩
 ·subst h;exact .inl (by simp)
 ·refine .inr ⟨g,o,e,hl,hb,fun j u hu=>hc j u ?_⟩;rw[List.getElem?_take]at hu;split at hu
  ·exact hu
  ·cases hu
theorem Rd.of_own {base:Nat} {e:TypeId} {n c:Nat} (h:w.ownsRow base e 1 (.slice A n c) n cs):Rd w base w.heap.size A cs:=by
 rcases h.2 with ⟨hv,hn⟩ | ⟨g,cap,cur,hv,hbg,hh,_⟩
 ·exact .inl (List.eq_nil_of_length_eq_zero (by rw[h.1,hn,Nat.zero_mul]))
 ·have hA:A=Option.some ⟨g,0,none⟩:=by injection hv
  subst hA;refine .inr ⟨g,0,rfl,hbg,(Array.getElem?_eq_some_iff.1 hh).1,fun j u hu=>?_⟩;have:=h.cells (g:=g) rfl j u hu;rwa [P9]at this
end
def Sl (w:World) (lo B:Nat) (v:Value) (cs:List Value):Prop:=∃A c,v=.slice A cs.length c∧cs.length≤c∧c≤maxLen∧Rd w lo B A cs
def By (w:World) (lo B:Nat) (v:Value) (l:List UInt8):Prop:=Sl w lo B v (l.map v8)
section
variable {w w' : World} {lo lo' B B' : Nat} {v : Value} {cs : List Value} {l : List UInt8}
theorem Sl.below (h:Sl w lo B v cs) (hb:Below B w w'):Sl w' lo B v cs:=let ⟨A,c,h1,h2,h3,h4⟩:=h;⟨A,c,h1,h2,h3,h4.below hb⟩
theorem Sl.more (h:Sl w lo B v cs) (hB:B≤B'):Sl w lo B' v cs:=let ⟨A,c,h1,h2,h3,h4⟩:=h;⟨A,c,h1,h2,h3,h4.more hB⟩
theorem Sl.less (h:Sl w lo B v cs) (hl:lo'≤lo):Sl w lo' B v cs:=let ⟨A,c,h1,h2,h3,h4⟩:=h;⟨A,c,h1,h2,h3,h4.less hl⟩
theorem Sl.of_own {base:Nat} {e:TypeId} {n:Nat} (h:w.ownsRow base e 1 v n cs):Sl w base w.heap.size v cs:=by
 have hl:cs.length=n:=by rw[h.1,Nat.mul_one]
 rcases h.2 with ⟨rfl,hn⟩ | ⟨g,cap,cur,rfl,hr⟩
 ·subst hn;have:cs=[]:=List.eq_nil_of_length_eq_zero hl;subst this;exact ⟨none,0,rfl,Nat.le_refl _,by simp[maxLen],.inl rfl⟩
 ·exact ⟨_,cap,by rw[hl],by rw[hl];exact hr.2.2.1,hr.2.2.2.1,Rd.of_own h⟩
theorem By.below (h:By w lo B v l) (hb:Below B w w'):By w' lo B v l:=Sl.below h hb
theorem By.more (h:By w lo B v l) (hB:B≤B'):By w lo B' v l:=Sl.more h hB
theorem By.less (h:By w lo B v l) (hl:lo'≤lo):By w lo' B v l:=Sl.less h hl
theorem By.open_ (h:By w lo B v l):∃A c,v=.slice A l.length c∧l.length≤c∧c≤9223372036854775807∧Rd w lo B A (l.map v8):=by
 obtain⟨A,c,h1,h2,h3,h4⟩:=h;rw[List.length_map]at h1 h2;exact ⟨A,c,h1,h2,by unfold maxLen at h3;exact h3,h4⟩
theorem By.mk_ {A:Option Addr} {c:Nat} (h2:l.length≤c) (h3:c≤maxLen) (h4:Rd w lo B A (l.map v8)):By w lo B (.slice A l.length c) l:=
 ⟨A,c,by rw[List.length_map],by rwa [List.length_map],h3,h4⟩
end
theorem B2q {w:World} {g o:Nat} {l:List UInt8} (h:∀j u,(l.map v8)[j]?=some u→w.cell? ⟨g,o+j,none⟩=some u) {k:Nat} (hk:k<l.length) :
 w.cell? ⟨g,o+k,none⟩=some (.int .u8 (n8 (Sh.g8 l k))):=by
 refine h k _ ?_;rw[List.getElem?_map,List.getElem?_eq_getElem hk];simp[v8,hk,Sh.g8]
end Go.Proofs.YtmllnpokbbabhaaGreat
namespace Go.Proofs.YtmllnpokbbabhaaGreat
open Go Go.RowKit
section
variable {P : Program} (w : World)
theorem Fu (z:Value) (n:Nat) (hz:z.cells=#[z]):Builtin.zeroCells z.cells n=(List.replicate n z).toArray:=by
 apply Array.ext';rw[hz];apply List.ext_getElem?;intro j;simp only[Builtin.zeroCells,Array.toList_map,Array.toList_range];rw[List.getElem?_map];by_cases h:j<n
 ·simp[h,Nat.mod_one]
 ·simp[h]
theorem Yb (base:Nat) (t tn ty e:TypeId) (i:TypeInfo) (z:Value) (bytes:Nat) (ht:P.underlying t=some (.slice e)) (k:IntKind) (htn:P.underlying tn=some (.int k))
 (hi:P.info? e=some i) (hz:i.zero=some z) (hsize:i.size=1) (hby:i.bytes=bytes) (hzs:z.cells=#[z]) (h1:z.oneCell'=true)
 (v:Value) (n:Nat) (xs:List Value) (hown:w.ownsRow base e 1 v n xs) (k':IntKind) (m:Nat)
 (h63:n+m≤maxLen) (hbytes:(n+m)*bytes≤140737488355328) (hbase:base≤w.heap.size) :
 ∃v' w',(Builtin.append_ #[t,tn] ty #[v,.int k' m]).run P w=.ok v' w'∧w'.ownsRow base e 1 v' (n+m) (xs++List.replicate m z)∧w.grownBy w' v.ownBlock∧
  (v'.ownBlock=v.ownBlock∨v'.ownBlock=some w.heap.size):=by
 subst hby;have aA:(xs++List.replicate m z).length=(n+m)*1:=by rw[List.length_append,hown.1];simp
 have aM:m≤9223372036854775807:=by simp only[maxLen]at h63;omega
 have aH:IntKind.i64.wrap (m:Int)=(m:Int):=IntWalk.i64_in _ (by omega);have aD:¬ ((m:Int)<0):=by omega
 have aQ:m*i.bytes≤140737488355328:=Nat.le_trans (Nat.mul_le_mul_right _ (by omega)) hbytes;have aI:¬ (281474976710656<(m:Int)*(i.bytes:Int)):=by
  have:((m*i.bytes:Nat):Int)≤140737488355328:=by omega
  rw[Int.natCast_mul]at this;omega
 have aC:∀(old:Nat),old<n+m→∀(aL:Option Nat),
  (w.drew.alloc (.cells (xs.toArray++(List.replicate m z).toArray++Builtin.zeroCells z.cells (grownCap w (n+m) old e-(n+m))) e)).ownsRow base e 1
   (.slice (some ⟨w.heap.size,0,none⟩) (n+m) (grownCap w (n+m) old e)) (n+m) (xs++List.replicate m z)∧
  w.grownBy (w.drew.alloc (.cells (xs.toArray++(List.replicate m z).toArray++Builtin.zeroCells z.cells (grownCap w (n+m) old e-(n+m))) e)) aL:=by
  intro old ho aL;have aN:=grownCap_ge w (n+m) old e;have aJ:grownCap w (n+m) old e≤maxLen:=grownCap_le_maxLen w (n+m) old e h63;refine ⟨⟨aA,.inr ⟨w.heap.size,_,_,rfl,hbase,heap_alloc_new w.drew _,aN,aJ,?_,?_⟩⟩,⟨rfl,rfl,rfl,by simp,fun k hk _=>Below.heap_alloc w.drew _ k hk⟩⟩
  ·have hx:xs.length=n:=by rw[hown.1,Nat.mul_one]
   rw[Fu z _ hzs];simp[hx];omega
  ·simp only[Array.toList_append,List.append_assoc];rw[←List.append_assoc,←aA];exact List.take_left
 rcases hown.2 with ⟨rfl,rfl⟩ | ⟨g,cap,cur,rfl,hbg,hg,hnc,aJ,hcs,htake⟩
 ·have hx:xs=[]:=List.eq_nil_of_length_eq_zero (by simpa using hown.1);subst hx;by_cases hm:m=0
  ·subst hm;refine ⟨.slice none 0 0,w,?_,World.ownsRow_nil w base e 1,⟨rfl,rfl,rfl,Nat.le_refl _,fun _ _ _=>rfl⟩,.inl rfl⟩;simp[Builtin.append_,run_underlying ht,run_underlying htn,sizeOf,typeInfo,hi,asInt,asIntOf,IntWalk.i64_in 0 (by omega)]
  ·have aF:=aC 0 (by omega) (Value.ownBlock (.slice none 0 0));refine ⟨_,_,?_,aF.1,aF.2,.inr rfl⟩;have aO:¬ (0+m≤0):=by omega
   have aB:¬ (281474976710656<Builtin.nextslicecap (0+m) 0*i.bytes):=by have:=growslice_fits (need:=0+m) (old:=0) (bytes:=i.bytes) (by omega) hbytes;omega
   simp only[Nat.zero_add]at aO aB;have aE:¬ (9223372036854775807<(m:Int)):=by omega
   simp[Builtin.append_,run_underlying ht,run_underlying htn,sizeOf,typeInfo,zeroValue,hi,hz,asInt,asIntOf,aH,aD,aI,hm,aE,aB,Question.forced,run_firstCells_none,newRow,grownCap,hsize,Fu z _ hzs]
 ·by_cases hroom:n+m≤cap
  ·by_cases hm:m=0
   ·subst hm;refine ⟨.slice (some ⟨g,0,none⟩) n cap,w,?_,by simpa using hown,World.grownBy.refl w _,.inl rfl⟩;simp[Builtin.append_,run_underlying ht,run_underlying htn,sizeOf,typeInfo,hi,asInt,asIntOf,IntWalk.i64_in 0 (by omega),hnc,storeCells]
   ·have aK:=run_storeCells_at P g (n*1) e (List.replicate m z) 0 cur w hg (by simp[hcs];omega) (fun u hu=>by rw[List.eq_of_mem_replicate hu];exact h1);simp only[Nat.add_zero]at aK;refine ⟨.slice (some ⟨g,0,none⟩) (n+m) cap,w.setRow g (cur.toList.take (n*1)++List.replicate m z++cur.toList.drop (n*1+(List.replicate m z).length)).toArray,?_,⟨aA,.inr ⟨g,cap,_,rfl,hbg,setRow_heap w g cur _ e _ hg,hroom,aJ,?_,?_⟩⟩,
     ⟨rfl,rfl,rfl,by simp,fun k _ hk=>setRow_other w g k _ (fun e=>hk (by simp[Value.ownBlock,e]))⟩,.inl rfl⟩
    ·simp only[Nat.mul_one]at aK;simp[Builtin.append_,run_underlying ht,run_underlying htn,sizeOf,typeInfo,zeroValue,hi,hz,asInt,asIntOf,aH,aD,aI,hm,hroom,hsize,Fu z _ hzs,Addr.add_lit,aK]
    ·simp only[List.size_toArray,List.length_append,List.length_take,List.length_drop,Array.length_toList];simp;omega
    ·rw[htake,←aA];exact List.take_left
  ·have aG:∀j u,xs[j]?=some u→w.cell? ((⟨g,0,none⟩:Addr).add j)=some u:=hown.cells (g:=g) rfl;have aF:=aC cap (by omega) (Value.ownBlock (.slice (some ⟨g,0,none⟩) n cap));refine ⟨_,_,?_,aF.1,aF.2,.inr rfl⟩;have hm:m≠0:=by omega
   have aB:¬ (281474976710656<Builtin.nextslicecap (n+m) cap*i.bytes):=by have:=growslice_fits (need:=n+m) (old:=cap) (bytes:=i.bytes) (by omega) hbytes;omega
   have aE:¬ (9223372036854775807<(n:Int)+(m:Int)):=by simp only[maxLen]at h63;omega
   have aP:=run_firstCells_some (P:=P) w.drew 1 n ⟨g,0,none⟩ n cap xs (by rw[hown.1]) (by simpa using aG);simp[Builtin.append_,run_underlying ht,run_underlying htn,sizeOf,typeInfo,zeroValue,hi,hz,asInt,asIntOf,aH,aD,aI,hm,hroom,aE,aB,aP,Question.forced,newRow,grownCap,hsize,Fu z _ hzs]
theorem Nk (base t ty e:Nat) (i:TypeInfo) (size:Nat) (ht:P.underlying t=some (.slice e)) (hi:P.info? e=some i) (v:Value) (n:Nat) (xs:List Value) (hown:w.ownsRow base e size v n xs) (c:Nat) :
 (Builtin.append_ #[t,t] ty #[v,.slice none 0 c]).run P w=.ok v w:=by
 rcases hown.2 with ⟨rfl,rfl⟩ | ⟨g,cap,cur,rfl,_,_,hnc,_⟩
 ·simp[Builtin.append_,run_underlying ht,sizeOf,typeInfo,hi,Builtin.lenOf,Builtin.firstCells]
 ·simp[Builtin.append_,run_underlying ht,sizeOf,typeInfo,hi,Builtin.lenOf,Builtin.firstCells,hnc,storeCells]
end
end Go.Proofs.YtmllnpokbbabhaaGreat
namespace Go.Proofs.YtmllnpokbbabhaaGreat
open Go Go.RowKit
def C4 (w:World) (a:Addr) (n:Nat):Option (List Value):=(List.range n).mapM fun j=>w.cell? (a.add j)
def F9 (w:World) (a:Addr) (n:Nat):Bool:=(List.range n).all fun j=>(w.cell? (a.add j)).isSome && !w.frozen? (a.add j)
def C2 (w:World) (a:Addr) (cs:List Value):World:=w.setCells a.block a.off cs
theorem Tg {α:Type} (f:Nat→Option α):∀(n:Nat) (cs:List α),((List.range n).mapM f=some cs↔cs.length=n∧∀j (u:α),cs[j]?=some u→f j=some u):=by
 intro n;induction n with
 | zero=>
  intro cs;constructor
  ·intro h;simp at h;subst h;simp
  ·rintro ⟨h,-⟩;have:=List.eq_nil_of_length_eq_zero h;subst this;simp
 | succ n ih=>
  intro cs;rw[List.range_succ,List.mapM_append];constructor
  ·intro h;simp only[Option.bind_eq_bind,Option.bind_eq_some_iff,List.mapM_cons,List.mapM_nil]at h;obtain⟨xs,hx,ys,⟨y,hy,z,hz,aA⟩,he⟩:=h;obtain⟨h1,h2⟩:=(ih xs).1 hx;simp only[pure,Option.some.injEq]at hz aA he;subst hz;subst aA;subst he;refine ⟨by simp[h1],fun j u hj=>?_⟩;rcases Nat.lt_or_ge j n with hlt | hge
   ·exact h2 j u (by rwa [List.getElem?_append_left (by omega)]at hj)
   ·rw[List.getElem?_append_right (by omega)]at hj;by_cases e:j=n
    ·subst e;simp[h1]at hj;subst hj;exact hy
    ·rw[List.getElem?_eq_none (by simp;omega)]at hj;cases hj
  ·rintro ⟨h1,h2⟩;have hn:n<cs.length:=by omega
   have hx:(List.range n).mapM f=some (cs.take n):=(ih _).2 ⟨by simp;omega,fun j u hj=>by
    rw[List.getElem?_take]at hj;split at hj
    ·exact h2 j u hj
    ·cases hj⟩
   simp only[Option.bind_eq_bind,Option.bind_eq_some_iff,List.mapM_cons,List.mapM_nil,pure,Option.some.injEq];refine ⟨_,hx,[cs[n]],⟨cs[n],h2 n _ (List.getElem?_eq_getElem hn),[],rfl,rfl⟩,?_⟩;rw[List.take_append_getElem];exact List.take_of_length_le (by omega)
theorem T5 {w:World} {g o n:Nat} {cs:List Value}:C4 w ⟨g,o,none⟩ n=some cs↔cs.length=n∧w.rangeAt g o cs:=by
 unfold C4 World.rangeAt;rw[Tg];simp only[P9]
theorem Kw {w:World} {g o n:Nat}:F9 w ⟨g,o,none⟩ n=true↔w.there g o n:=by
 unfold F9 World.there;simp only[List.all_eq_true,List.mem_range,P9,Bool.and_eq_true,Bool.not_eq_true']
section
variable {w w' : World} {a : Addr} {n : Nat}
theorem Ul (h:∀p:Addr,p.block=a.block→w'.cell? p=w.cell? p):C4 w' a n=C4 w a n:=by
 unfold C4;congr 1;funext j;exact h _ (Tt _ _)
theorem B9v (h:∀p:Addr,p.block=a.block→w'.cell? p=w.cell? p) (hf:∀p:Addr,p.block=a.block→w'.frozen? p=w.frozen? p):F9 w' a n=F9 w a n:=by
 unfold F9;congr 1;funext j;rw[h _ (Tt _ _),hf _ (Tt _ _)]
@[go_sem] theorem D7m (k : Nat) : C4 (w.drewN k) a n = C4 w a n := rfl
@[go_sem] theorem D7v (k : Nat) : F9 (w.drewN k) a n = F9 w a n := rfl
@[go_sem] theorem D8i (o : Obj) (h : a.block < w.heap.size) : C4 (w.alloc o) a n = C4 w a n :=
 Ul fun p hp=>World.cell?_alloc_lt w o p (by omega)
@[go_sem] theorem D7e (o : Obj) (h : a.block < w.heap.size) : F9 (w.alloc o) a n = F9 w a n :=
 B9v (fun p hp=>World.cell?_of_block (Below.heap_alloc w o _ (by omega))) (fun p hp=>World.frozen?_of_block (Below.heap_alloc w o _ (by omega)))
theorem Gj {B:Nat} (hb:Below B w w') (h:a.block<B):C4 w' a n=C4 w a n:=Ul fun p hp=>hb.cell (by omega)
end
theorem X2 (g:Nat):∀(vs:List Value) (o:Nat) (w:World) (k:Nat),k≠g→(w.setCells g o vs).heap[k]?=w.heap[k]?
 | [],_,_,_,_=>rfl
 | v::r,o,w,k,h=>(X2 g r (o+1) _ k h).trans (Below.heap_setCell w ⟨g,o,none⟩ v k h)
theorem Sx (g:Nat):∀(vs:List Value) (o:Nat) (w:World),(w.setCells g o vs).heap.size=w.heap.size
 | [],_,_=>rfl
 | v::r,o,w=>(Sx g r (o+1) _).trans (by simp[World.setCell])
theorem Qg {B g:Nat} {a:World} (hg:B≤g):∀(vs:List Value) (o:Nat) {w:World},Below B a w→Below B a (w.setCells g o vs)
 | [],_,_,h=>h
 | v::r,o,_,h=>Qg hg r (o+1) (h.setCell (p:=⟨g,o,none⟩) hg v)
@[simp, go_sem] theorem A3d (w : World) (a : Addr) (cs : List Value) : (C2 w a cs).heap.size = w.heap.size := Sx _ _ _ _
theorem C0 {B:Nat} {v w:World} (h:Below B v w) {a:Addr} (ha:B≤a.block) (cs:List Value):Below B v (C2 w a cs):=Qg ha _ _ h
section
variable {w : World} {g : Nat} {t : TypeId} {cs : List Value}
theorem Bk.row (h:Bk w g t cs) {o n:Nat} (hn:o+n≤cs.length):C4 w ⟨g,o,none⟩ n=some ((cs.drop o).take n):=
 T5.2 ⟨by simp;omega,fun j u hj=>by
  rw[List.getElem?_take]at hj;split at hj
  ·rw[List.getElem?_drop]at hj;exact h.at_ hj
  ·cases hj⟩
theorem Bk.rows (h:Bk w g t cs):C4 w ⟨g,0,none⟩ cs.length=some cs:=by
 rw[h.row (by omega)];simp
theorem Bk.can (h:Bk w g t cs) {o n:Nat} (hn:o+n≤cs.length):F9 w ⟨g,o,none⟩ n=true:=
 Kw.2 fun j hj=>⟨by rw[h.cell,List.getElem?_eq_getElem (by omega)];rfl,h.frozen _⟩
theorem Bk.setCells:∀(vs:List Value) (o:Nat) {w:World} {cs:List Value},Bk w g t cs→o+vs.length≤cs.length→Bk (w.setCells g o vs) g t (cs.take o++vs++cs.drop (o+vs.length))
 | [],o,w,cs,h,_=>by simpa [World.setCells] using h
 | v::r,o,w,cs,h,hl=>by
  have hl':o+(r.length+1)≤cs.length:=by simpa using hl
  have h1:=Bk.setCells r (o+1) (h.set_ o v) (by simp;omega);have e:(cs.set o v).take (o+1)++r++(cs.set o v).drop (o+1+r.length)=cs.take o++v::r++cs.drop (o+(v::r).length):=by
   rw[List.drop_set_of_lt (by omega)];have:(cs.set o v).take (o+1)=cs.take o++[v]:=by
    rw[List.take_add_one,List.take_set_of_le (by omega)];simp[show o<cs.length by omega]
   rw[this];simp[Nat.add_assoc,Nat.add_comm 1]
  rw[e]at h1;exact h1
theorem Bk.put (h:Bk w g t cs) {o:Nat} {vs:List Value} (hl:o+vs.length≤cs.length):Bk (C2 w ⟨g,o,none⟩ vs) g t (cs.take o++vs++cs.drop (o+vs.length)):=Bk.setCells vs o h hl
theorem Bk.puts (h:Bk w g t cs) {vs:List Value} (hl:vs.length=cs.length):Bk (C2 w ⟨g,0,none⟩ vs) g t vs:=by
 have:=h.put (o:=0) (vs:=vs) (by omega);simpa [hl] using this
theorem Bk.putFar (h:Bk w g t cs) {p:Addr} (hp:g≠p.block) (vs:List Value):Bk (C2 w p vs) g t cs:=(X2 _ _ _ _ _ hp).trans h
end
theorem Qz.putAt {lo hi:Nat} {a w:World} (h:Qz lo hi a w) {p:Addr} (hp:p.block<lo∨hi≤p.block) (vs:List Value):Qz lo hi a (C2 w p vs):=fun k h1 h2=>(X2 _ _ _ _ _ (by omega)).trans (h k h1 h2)
section
variable (k : IntKind) (n : Int) (b : Bool) (s : ByteArray) (p : Option Addr) (l c : Nat) (t : TypeId) (v : Value) (r : Option Nat)
@[go_sem] theorem E8a : (Value.int k n).oneCell' = true := rfl
@[go_sem] theorem D7n : (Value.pointer p).oneCell' = true := rfl
@[go_sem] theorem E1i : (Value.slice p l c).oneCell' = true := rfl
@[go_sem] theorem E8m : (Value.map r).oneCell' = true := rfl
end
def O9 (P:Program) (ρ:Operand→Value) (o:Oper) (w:World):Result Next:=(execOp ρ o).run P w
def Ov (n:Nat) (w:World) (raw:Result Next):Value→Result Next
 | .pointer (some a)=>(C4 w a n).elim raw (fun cs=>.ok (.value (.agg cs.toArray)) w)
 | _=>raw
@[go_sem] theorem E2d (n : Nat) (w : World) (raw : Result Next) (a : Addr) : Ov n w raw (.pointer (some a)) = (C4 w a n).elim raw (fun cs => .ok (.value (.agg cs.toArray)) w) := rfl
def X5 (n:Nat) (w:World) (raw:Result Next):Value→Value→Result Next
 | .pointer (some a),.agg cs=>if cs.size=n∧cs.all (·.oneCell')=true∧F9 w a n=true then .ok .skip (C2 w a cs.toList) else raw
 | _,_=>raw
@[go_sem] theorem Me (n : Nat) (w : World) (raw : Result Next) (a : Addr) (cs : Array Value) : X5 n w raw (.pointer (some a)) (.agg cs) =
 if cs.size=n∧cs.all (·.oneCell')=true∧F9 w a n=true then .ok .skip (C2 w a cs.toList) else raw:=rfl
section
variable {P : Program} (w : World) (ρ : Operand → Value) (dst : Option Tmp) (ty : TypeId) (pos : String) (after : Array Edge) (guard : Option (Nat × Bool))
theorem C3h {w:World} {a:Addr} {n:Nat} {cs:List Value} (hn:0<n) (h:C4 w a n=some cs):a.spot=none:=by
 have h1:=((Tg (fun j=>w.cell? (a.add j)) n cs).1 h);have hc:cs[0]?=some cs[0]:=List.getElem?_eq_getElem (by omega);have:=h1.2 0 _ hc;have h2:w.cell? a=some cs[0]:=by simpa [Addr.add] using this
 exact World.cell?_spot h2
theorem Lh (t n:TypeId) (d:TypeDesc) (x:Operand) (hn:0<n) (hu:P.underlying t=some d) (hd:d.isRow=true) (hi:(P.info? t).map (·.size)=some n) :
 (execOp ρ { dst,op:=.load t x,type:=ty,pos,after,guard }).run P w=Ov n w (O9 P ρ { dst,op:=.load t x,type:=ty,pos,after,guard } w) (ρ x):=by
 generalize hv:ρ x=v;unfold Ov;split
 ·rename_i a
  cases hr:C4 w a n with
  | none=>rfl
  | some cs=>
   have hs:=C3h hn hr;obtain⟨g,o,s⟩:=a;simp only at hs;subst hs;obtain⟨hl,hc⟩:=T5.1 hr;have h1:=run_loadAt_mid (P:=P) w g o t cs d hc hu hd (by rw[hi,hl]);unfold execOp;simp only[hv,Sem.run_bind,h1,Result.andThen_ok,Option.elim_some];rfl
 ·rfl
theorem Fk (t n:TypeId) (x y:Operand) (hn:0<n) (hi:(P.info? t).map (·.size)=some n) :
 (execOp ρ { dst,op:=.store t x y,type:=ty,pos,after,guard }).run P w=X5 n w (O9 P ρ { dst,op:=.store t x y,type:=ty,pos,after,guard } w) (ρ x) (ρ y):=by
 generalize hv:ρ x=v;generalize hz:ρ y=z;unfold X5;split
 ·rename_i a cs
  by_cases hc:cs.size=n∧cs.all (·.oneCell')=true∧F9 w a n=true
  ·rw[if_pos hc];obtain⟨h1,h2,h3⟩:=hc;have hs:a.spot=none:=by
    have h4:(w.cell? (a.add 0)).isSome=true:=by unfold F9 at h3;have:=List.all_eq_true.1 h3 0 (List.mem_range.2 hn);simp only[Bool.and_eq_true]at this;exact this.1
    cases h5:w.cell? (a.add 0) with
    | none=>rw[h5]at h4;cases h4
    | some u=>exact World.cell?_spot (by simpa [Addr.add] using h5)
   obtain⟨g,o,s⟩:=a;simp only at hs;subst hs;have h6:=run_storeAt_mid (P:=P) w g o t cs (by rw[h1];exact Kw.1 h3) (by rw[hi,h1]) h2;unfold execOp;simp only[hv,hz,Sem.run_bind,h6,Result.andThen_ok];rfl
  ·rw[if_neg hc];rfl
 ·rfl
theorem N8 (t:TypeId) (z:Value) (hi:((P.info? t).bind (·.zero))=some z) :
 (execOp ρ { dst,op:=.alloc t,type:=ty,pos,after,guard }).run P w=.ok (.value (.pointer (some ⟨w.heap.size,0,none⟩))) (w.alloc (.cells z.cells t)):=by
 cases hq:P.info? t with
 | none=>simp[hq]at hi
 | some i=>
  have hz:i.zero=some z:=by simpa [hq] using hi
  simp[execOp,Instr.alloc,zeroValue,typeInfo,hq,hz,newVar,newRow]
end
end Go.Proofs.YtmllnpokbbabhaaGreat
namespace Go.Proofs.YtmllnpokbbabhaaGreat
open Go Go.RowKit
def c8 (l:List UInt8):List Value:=l.map v8
def A8 (l:List UInt8):Value:=.agg (c8 l).toArray
def z8 (k:Nat):List UInt8:=List.replicate k 0
@[simp, go_sem] theorem L6 (k : Nat) : (z8 k).length = k := by simp [z8]
@[simp, go_sem] theorem C1 (l : List UInt8) : (c8 l).length = l.length := by simp [c8]
theorem Nh {l:List UInt8} {i:Nat} (h:i<l.length):(c8 l)[i]?=some (.int .u8 (n8 (Sh.g8 l i))):=by
 unfold c8;rw[List.getElem?_map,List.getElem?_eq_getElem h];simp[h,v8,Sh.g8]
theorem Lp (l:List UInt8) (i:Nat) (x:UInt8):(c8 l).set i (.int .u8 (n8 x))=c8 (l.set i x):=by
 show (l.map v8).set i (v8 x)=(l.set i x).map v8;rw[List.map_set]
@[go_sem] theorem E9c (l : List UInt8) : Value.agg (c8 l).toArray = A8 l := rfl
theorem C9f (l:List UInt8):(c8 l).toArray.all (·.oneCell')=true:=by simp[c8,v8,Value.oneCell']
@[go_sem] theorem E0e (n : Nat) (w : World) (raw : Result Next) (a : Addr) (l : List UInt8) : X5 n w raw (.pointer (some a)) (A8 l) =
 if l.length=n∧F9 w a n=true then .ok .skip (C2 w a (c8 l)) else raw:=by
 have e:X5 n w raw (.pointer (some a)) (A8 l)=if (c8 l).toArray.size=n∧(c8 l).toArray.all (·.oneCell')=true∧F9 w a n=true then .ok .skip (C2 w a (c8 l).toArray.toList) else raw:=rfl;rw[e,C9f];simp only[List.size_toArray,C1,true_and]
def E5m (n:Nat) (w:World) (raw:Result Next):Value→Value→Result Next
 | .agg cs,.int _ i=>if 0≤i∧i<n∧cs.size=n∧(cs[i.toNat]?).isSome then .ok (.value (cs[i.toNat]?.getD undef)) w else raw
 | _,_=>raw
theorem D8g {P:Program} (w:World) (ρ:Operand→Value) (dst:Option Tmp) (ty:TypeId) (pos:String) (after:Array Edge) (guard:Option (Nat×Bool))
 (t e n:TypeId) (x ix:Operand) (hu:P.underlying t=some (.array n e)) (ha:(match P.underlying e with | some (.int _)=>true | _=>false)=true) (hi:(P.info? e).map (·.size)=some 1) :
 (execOp ρ { dst,op:=.index t x ix,type:=ty,pos,after,guard }).run P w=E5m n w (O9 P ρ { dst,op:=.index t x ix,type:=ty,pos,after,guard } w) (ρ x) (ρ ix):=by
 generalize hv:ρ x=v;generalize hz:ρ ix=z;unfold E5m;split
 ·rename_i cs kk i
  split
  ·rename_i hc
   obtain⟨h1,h2,h3,h4⟩:=hc;cases hp:P.underlying e with
   | none=>simp[hp]at ha
   | some d=>
    cases d<;>simp[hp]at ha;cases hq:P.info? e with
    | none=>simp[hq]at hi
    | some j=>
     have hj:j.size=1:=by simpa [hq] using hi
     cases hcs:cs[i.toNat]? with
     | none=>rw[hcs]at h4;cases h4
     | some u=>simp[execOp,hv,hz,Instr.index,run_underlying hu,asIntOf,h1,h2,sizeOf,typeInfo,hq,hj,part,isAgg,run_underlying hp,hcs]
  ·rfl
 ·rfl
def Fw (l:List UInt32):List Value:=l.map v32
def A32 (l:List UInt32):Value:=.agg (Fw l).toArray
def z32 (k:Nat):List UInt32:=List.replicate k 0
@[simp, go_sem] theorem E1b (k : Nat) : (z32 k).length = k := by simp [z32]
@[simp, go_sem] theorem Tx (l : List UInt32) : (Fw l).length = l.length := by simp [Fw]
theorem Ch {l:List UInt32} {i:Nat} (h:i<l.length):(Fw l)[i]?=some (.int .u32 (Cg (Sh.Cw l i))):=by
 unfold Fw;rw[List.getElem?_map,List.getElem?_eq_getElem h];simp[h,v32,Sh.Cw]
theorem A0k (l:List UInt32) (i:Nat) (x:UInt32):(Fw l).set i (.int .u32 (Cg x))=Fw (l.set i x):=by
 show (l.map v32).set i (v32 x)=(l.set i x).map v32;rw[List.map_set]
@[go_sem] theorem E3c (l : List UInt32) : Value.agg (Fw l).toArray = A32 l := rfl
theorem D5y (l:List UInt32):(Fw l).toArray.all (·.oneCell')=true:=by simp[Fw,v32,Value.oneCell']
@[go_sem] theorem D8k (n : Nat) (w : World) (raw : Result Next) (a : Addr) (l : List UInt32) : X5 n w raw (.pointer (some a)) (A32 l) =
 if l.length=n∧F9 w a n=true then .ok .skip (C2 w a (Fw l)) else raw:=by
 have e:X5 n w raw (.pointer (some a)) (A32 l)=if (Fw l).toArray.size=n∧(Fw l).toArray.all (·.oneCell')=true∧F9 w a n=true then .ok .skip (C2 w a (Fw l).toArray.toList) else raw:=rfl;rw[e,D5y];simp only[List.size_toArray,Tx,true_and]
def B5d (n:Nat) (w:World) (raw:Result Next):Value→Value→Result Next
 | .agg cs,.int _ i=>if 0≤i∧i<n∧cs.size=n∧(cs[i.toNat]?).isSome then .ok (.value (cs[i.toNat]?.getD undef)) w else raw
 | _,_=>raw
@[go_sem] theorem E8e (n : Nat) (w : World) (raw : Result Next) (k : IntKind) (i : Int) (l : List UInt32) : B5d n w raw (A32 l) (.int k i) =
 if 0≤i∧i<n∧l.length=n then .ok (.value (.int .u32 (Cg (Sh.Cw l i.toNat)))) w else raw:=by
 have e:B5d n w raw (A32 l) (.int k i)=if 0≤i∧i<n∧(Fw l).toArray.size=n∧((Fw l).toArray[i.toNat]?).isSome then .ok (.value ((Fw l).toArray[i.toNat]?.getD undef)) w else raw:=rfl;rw[e];unfold Fw;by_cases h:0≤i∧i<n∧l.length=n
 ·have hl:i.toNat<l.length:=by omega
  rw[if_pos h,if_pos (by simp;omega)];simp[hl,v32,Sh.Cw]
 ·rw[if_neg h,if_neg (fun hh=>h ⟨hh.1,hh.2.1,by simpa using hh.2.2.1⟩)]
theorem A8q {P:Program} (w:World) (ρ:Operand→Value) (dst:Option Tmp) (ty:TypeId) (pos:String) (after:Array Edge) (guard:Option (Nat×Bool))
 (t e n:TypeId) (x ix:Operand) (hu:P.underlying t=some (.array n e)) (ha:(match P.underlying e with | some (.int _)=>true | _=>false)=true) (hi:(P.info? e).map (·.size)=some 1) :
 (execOp ρ { dst,op:=.index t x ix,type:=ty,pos,after,guard }).run P w=B5d n w (O9 P ρ { dst,op:=.index t x ix,type:=ty,pos,after,guard } w) (ρ x) (ρ ix):=by
 generalize hv:ρ x=v;generalize hz:ρ ix=z;unfold B5d;split
 ·rename_i cs kk i
  split
  ·rename_i hc
   obtain⟨h1,h2,h3,h4⟩:=hc;cases hp:P.underlying e with
   | none=>simp[hp]at ha
   | some d=>
    cases d<;>simp[hp]at ha;cases hq:P.info? e with
    | none=>simp[hq]at hi
    | some j=>
     have hj:j.size=1:=by simpa [hq] using hi
     cases hcs:cs[i.toNat]? with
     | none=>rw[hcs]at h4;cases h4
     | some u=>simp[execOp,hv,hz,Instr.index,run_underlying hu,asIntOf,h1,h2,sizeOf,typeInfo,hq,hj,part,isAgg,run_underlying hp,hcs]
  ·rfl
 ·rfl
def E4 (l:List UInt64):List Value:=l.map Wr
def H7 (l:List UInt64):Value:=.agg (E4 l).toArray
def T9 (k:Nat):List UInt64:=List.replicate k 0
@[simp, go_sem] theorem E0y (k : Nat) : (T9 k).length = k := by simp [T9]
@[simp, go_sem] theorem Md (l : List UInt64) : (E4 l).length = l.length := by simp [E4]
theorem Q1 {l:List UInt64} {i:Nat} (h:i<l.length):(E4 l)[i]?=some (.int .u64 (E6 (Sh.E0 l i))):=by
 unfold E4;rw[List.getElem?_map,List.getElem?_eq_getElem h];simp[h,Wr,Sh.E0]
theorem Fv (l:List UInt64) (i:Nat) (x:UInt64):(E4 l).set i (.int .u64 (E6 x))=E4 (l.set i x):=by
 show (l.map Wr).set i (Wr x)=(l.set i x).map Wr;rw[List.map_set]
@[go_sem] theorem E6m (l : List UInt64) : Value.agg (E4 l).toArray = H7 l := rfl
theorem C1j (l:List UInt64):(E4 l).toArray.all (·.oneCell')=true:=by simp[E4,Wr,Value.oneCell']
@[go_sem] theorem D6v (n : Nat) (w : World) (raw : Result Next) (a : Addr) (l : List UInt64) : X5 n w raw (.pointer (some a)) (H7 l) =
 if l.length=n∧F9 w a n=true then .ok .skip (C2 w a (E4 l)) else raw:=by
 have e:X5 n w raw (.pointer (some a)) (H7 l)=if (E4 l).toArray.size=n∧(E4 l).toArray.all (·.oneCell')=true∧F9 w a n=true then .ok .skip (C2 w a (E4 l).toArray.toList) else raw:=rfl;rw[e,C1j];simp only[List.size_toArray,Md,true_and]
def A6k (n:Nat) (w:World) (raw:Result Next):Value→Value→Result Next
 | .agg cs,.int _ i=>if 0≤i∧i<n∧cs.size=n∧(cs[i.toNat]?).isSome then .ok (.value (cs[i.toNat]?.getD undef)) w else raw
 | _,_=>raw
@[go_sem] theorem E8i (n : Nat) (w : World) (raw : Result Next) (k : IntKind) (i : Int) (l : List UInt64) : A6k n w raw (H7 l) (.int k i) =
 if 0≤i∧i<n∧l.length=n then .ok (.value (.int .u64 (E6 (Sh.E0 l i.toNat)))) w else raw:=by
 have e:A6k n w raw (H7 l) (.int k i)=if 0≤i∧i<n∧(E4 l).toArray.size=n∧((E4 l).toArray[i.toNat]?).isSome then .ok (.value ((E4 l).toArray[i.toNat]?.getD undef)) w else raw:=rfl;rw[e];unfold E4;by_cases h:0≤i∧i<n∧l.length=n
 ·have hl:i.toNat<l.length:=by omega
  rw[if_pos h,if_pos (by simp;omega)];simp[hl,Wr,Sh.E0]
 ·rw[if_neg h,if_neg (fun hh=>h ⟨hh.1,hh.2.1,by simpa using hh.2.2.1⟩)]
theorem Vl {P:Program} (w:World) (ρ:Operand→Value) (dst:Option Tmp) (ty:TypeId) (pos:String) (after:Array Edge) (guard:Option (Nat×Bool))
 (t e n:TypeId) (x ix:Operand) (hu:P.underlying t=some (.array n e)) (ha:(match P.underlying e with | some (.int _)=>true | _=>false)=true) (hi:(P.info? e).map (·.size)=some 1) :
 (execOp ρ { dst,op:=.index t x ix,type:=ty,pos,after,guard }).run P w=A6k n w (O9 P ρ { dst,op:=.index t x ix,type:=ty,pos,after,guard } w) (ρ x) (ρ ix):=by
 generalize hv:ρ x=v;generalize hz:ρ ix=z;unfold A6k;split
 ·rename_i cs kk i
  split
  ·rename_i hc
   obtain⟨h1,h2,h3,h4⟩:=hc;cases hp:P.underlying e with
   | none=>simp[hp]at ha
   | some d=>
    cases d<;>simp[hp]at ha;cases hq:P.info? e with
    | none=>simp[hq]at hi
    | some j=>
     have hj:j.size=1:=by simpa [hq] using hi
     cases hcs:cs[i.toNat]? with
     | none=>rw[hcs]at h4;cases h4
     | some u=>simp[execOp,hv,hz,Instr.index,run_underlying hu,asIntOf,h1,h2,sizeOf,typeInfo,hq,hj,part,isAgg,run_underlying hp,hcs]
  ·rfl
 ·rfl
@[go_sem] theorem C4r (w : World) (cs : List Value) (t n : Nat) (h : cs.length = n) : C4 (w.alloc (.cells cs.toArray t)) ⟨w.heap.size, 0, none⟩ n = some cs := by
 subst h;exact (Bk.new w t cs).rows
@[go_sem] theorem C4g (w : World) (cs : List Value) (t n : Nat) (h : cs.length = n) : F9 (w.alloc (.cells cs.toArray t)) ⟨w.heap.size, 0, none⟩ n = true := by
 subst h;exact (Bk.new w t cs).can (by omega)
theorem H9:(Tryz.prog.info? 40).map (·.size)=some 32:=by kernel_rfl
theorem D2c:((Tryz.prog.info? 40).bind (·.zero))=some (A8 (z8 32)):=by kernel_rfl
section
variable (w : World) (ρ : Operand → Value) (dst : Option Tmp) (ty : TypeId) (pos : String) (after : Array Edge) (guard : Option (Nat × Bool))
@[go_sem ↓ high] theorem E5e (x : Operand) :
 (execOp ρ { dst,op:=.load 40 x,type:=ty,pos,after,guard }).run Tryz.prog w=Ov 32 w (O9 Tryz.prog ρ { dst,op:=.load 40 x,type:=ty,pos,after,guard } w) (ρ x):=
 Lh w ρ dst ty pos after guard 40 32 _ x (by decide) Tryz.underlying40 rfl H9
@[go_sem ↓ high] theorem E1x (x y : Operand) :
 (execOp ρ { dst,op:=.store 40 x y,type:=ty,pos,after,guard }).run Tryz.prog w=X5 32 w (O9 Tryz.prog ρ { dst,op:=.store 40 x y,type:=ty,pos,after,guard } w) (ρ x) (ρ y):=
 Fk w ρ dst ty pos after guard 40 32 x y (by decide) H9
@[go_sem ↓ high] theorem E1g :
 (execOp ρ { dst,op:=.alloc 40,type:=ty,pos,after,guard }).run Tryz.prog w=.ok (.value (.pointer (some ⟨w.heap.size,0,none⟩))) (w.alloc (.cells (c8 (z8 32)).toArray 40)):=
 N8 w ρ dst ty pos after guard 40 (A8 (z8 32)) D2c
end
theorem Oz:(Tryz.prog.info? 67).map (·.size)=some 64:=by kernel_rfl
theorem C7g:((Tryz.prog.info? 67).bind (·.zero))=some (A8 (z8 64)):=by kernel_rfl
section
variable (w : World) (ρ : Operand → Value) (dst : Option Tmp) (ty : TypeId) (pos : String) (after : Array Edge) (guard : Option (Nat × Bool))
@[go_sem ↓ high] theorem E6q (x : Operand) :
 (execOp ρ { dst,op:=.load 67 x,type:=ty,pos,after,guard }).run Tryz.prog w=Ov 64 w (O9 Tryz.prog ρ { dst,op:=.load 67 x,type:=ty,pos,after,guard } w) (ρ x):=
 Lh w ρ dst ty pos after guard 67 64 _ x (by decide) Tryz.underlying67 rfl Oz
@[go_sem ↓ high] theorem E2g (x y : Operand) :
 (execOp ρ { dst,op:=.store 67 x y,type:=ty,pos,after,guard }).run Tryz.prog w=X5 64 w (O9 Tryz.prog ρ { dst,op:=.store 67 x y,type:=ty,pos,after,guard } w) (ρ x) (ρ y):=
 Fk w ρ dst ty pos after guard 67 64 x y (by decide) Oz
@[go_sem ↓ high] theorem E1j :
 (execOp ρ { dst,op:=.alloc 67,type:=ty,pos,after,guard }).run Tryz.prog w=.ok (.value (.pointer (some ⟨w.heap.size,0,none⟩))) (w.alloc (.cells (c8 (z8 64)).toArray 67)):=
 N8 w ρ dst ty pos after guard 67 (A8 (z8 64)) C7g
end
theorem C0h:(Tryz.prog.info? 194).map (·.size)=some 8:=by kernel_rfl
theorem D3v:((Tryz.prog.info? 194).bind (·.zero))=some (A32 (z32 8)):=by kernel_rfl
section
variable (w : World) (ρ : Operand → Value) (dst : Option Tmp) (ty : TypeId) (pos : String) (after : Array Edge) (guard : Option (Nat × Bool))
@[go_sem ↓ high] theorem E8f (x : Operand) :
 (execOp ρ { dst,op:=.load 194 x,type:=ty,pos,after,guard }).run Tryz.prog w=Ov 8 w (O9 Tryz.prog ρ { dst,op:=.load 194 x,type:=ty,pos,after,guard } w) (ρ x):=
 Lh w ρ dst ty pos after guard 194 8 _ x (by decide) Tryz.underlying194 rfl C0h
@[go_sem ↓ high] theorem E7p (x y : Operand) :
 (execOp ρ { dst,op:=.store 194 x y,type:=ty,pos,after,guard }).run Tryz.prog w=X5 8 w (O9 Tryz.prog ρ { dst,op:=.store 194 x y,type:=ty,pos,after,guard } w) (ρ x) (ρ y):=
 Fk w ρ dst ty pos after guard 194 8 x y (by decide) C0h
@[go_sem ↓ high] theorem E6d :
 (execOp ρ { dst,op:=.alloc 194,type:=ty,pos,after,guard }).run Tryz.prog w=.ok (.value (.pointer (some ⟨w.heap.size,0,none⟩))) (w.alloc (.cells (Fw (z32 8)).toArray 194)):=
 N8 w ρ dst ty pos after guard 194 (A32 (z32 8)) D3v
@[go_sem ↓ high] theorem E2k (x ix : Operand) :
 (execOp ρ { dst,op:=.index 194 x ix,type:=ty,pos,after,guard }).run Tryz.prog w=B5d 8 w (O9 Tryz.prog ρ { dst,op:=.index 194 x ix,type:=ty,pos,after,guard } w) (ρ x) (ρ ix):=
 A8q w ρ dst ty pos after guard 194 _ 8 x ix Tryz.underlying194 (by kernel_rfl) (by kernel_rfl)
end
theorem C6o:((Tryz.prog.info? 199).bind (·.zero))=some (A32 (z32 64)):=by kernel_rfl
section
variable (w : World) (ρ : Operand → Value) (dst : Option Tmp) (ty : TypeId) (pos : String) (after : Array Edge) (guard : Option (Nat × Bool))
@[go_sem ↓ high] theorem E1v :
 (execOp ρ { dst,op:=.alloc 199,type:=ty,pos,after,guard }).run Tryz.prog w=.ok (.value (.pointer (some ⟨w.heap.size,0,none⟩))) (w.alloc (.cells (Fw (z32 64)).toArray 199)):=
 N8 w ρ dst ty pos after guard 199 (A32 (z32 64)) C6o
end
theorem B0t:(Tryz.prog.info? 195).map (·.size)=some 8:=by kernel_rfl
theorem D4f:((Tryz.prog.info? 195).bind (·.zero))=some (H7 (T9 8)):=by kernel_rfl
section
variable (w : World) (ρ : Operand → Value) (dst : Option Tmp) (ty : TypeId) (pos : String) (after : Array Edge) (guard : Option (Nat × Bool))
@[go_sem ↓ high] theorem E8s (x : Operand) :
 (execOp ρ { dst,op:=.load 195 x,type:=ty,pos,after,guard }).run Tryz.prog w=Ov 8 w (O9 Tryz.prog ρ { dst,op:=.load 195 x,type:=ty,pos,after,guard } w) (ρ x):=
 Lh w ρ dst ty pos after guard 195 8 _ x (by decide) Tryz.underlying195 rfl B0t
@[go_sem ↓ high] theorem E6z (x y : Operand) :
 (execOp ρ { dst,op:=.store 195 x y,type:=ty,pos,after,guard }).run Tryz.prog w=X5 8 w (O9 Tryz.prog ρ { dst,op:=.store 195 x y,type:=ty,pos,after,guard } w) (ρ x) (ρ y):=
 Fk w ρ dst ty pos after guard 195 8 x y (by decide) B0t
@[go_sem ↓ high] theorem E4w :
 (execOp ρ { dst,op:=.alloc 195,type:=ty,pos,after,guard }).run Tryz.prog w=.ok (.value (.pointer (some ⟨w.heap.size,0,none⟩))) (w.alloc (.cells (E4 (T9 8)).toArray 195)):=
 N8 w ρ dst ty pos after guard 195 (H7 (T9 8)) D4f
@[go_sem ↓ high] theorem E5c (x ix : Operand) :
 (execOp ρ { dst,op:=.index 195 x ix,type:=ty,pos,after,guard }).run Tryz.prog w=A6k 8 w (O9 Tryz.prog ρ { dst,op:=.index 195 x ix,type:=ty,pos,after,guard } w) (ρ x) (ρ ix):=
 Vl w ρ dst ty pos after guard 195 _ 8 x ix Tryz.underlying195 (by kernel_rfl) (by kernel_rfl)
end
theorem B3z:(Tryz.prog.info? 197).map (·.size)=some 80:=by kernel_rfl
theorem D1y:((Tryz.prog.info? 197).bind (·.zero))=some (H7 (T9 80)):=by kernel_rfl
section
variable (w : World) (ρ : Operand → Value) (dst : Option Tmp) (ty : TypeId) (pos : String) (after : Array Edge) (guard : Option (Nat × Bool))
@[go_sem ↓ high] theorem E1l (x y : Operand) :
 (execOp ρ { dst,op:=.store 197 x y,type:=ty,pos,after,guard }).run Tryz.prog w=X5 80 w (O9 Tryz.prog ρ { dst,op:=.store 197 x y,type:=ty,pos,after,guard } w) (ρ x) (ρ y):=
 Fk w ρ dst ty pos after guard 197 80 x y (by decide) B3z
@[go_sem ↓ high] theorem E2c :
 (execOp ρ { dst,op:=.alloc 197,type:=ty,pos,after,guard }).run Tryz.prog w=.ok (.value (.pointer (some ⟨w.heap.size,0,none⟩))) (w.alloc (.cells (E4 (T9 80)).toArray 197)):=
 N8 w ρ dst ty pos after guard 197 (H7 (T9 80)) D1y
end
end Go.Proofs.YtmllnpokbbabhaaGreat
namespace Go.Proofs.YtmllnpokbbabhaaGreat
open Go Go.RowKit
def J0 (w:World) (base:Nat) (v:Value) (l:List UInt8):Prop:=w.ownsRow base 5 1 v l.length (l.map v8)
theorem J0.by_ {w:World} {base:Nat} {v:Value} {l:List UInt8} (h:J0 w base v l):By w base w.heap.size v l:=Sl.of_own h
theorem J0.nil (w:World) (base:Nat):J0 w base (.slice none 0 0) []:=World.ownsRow_nil w base _ _
theorem J0.below {w w':World} {base B:Nat} {v:Value} {l:List UInt8} (h:J0 w base v l) (hb:Below B w w') (hB:w.heap.size≤B):J0 w' base v l:=by
 refine World.ownsRow.kept (row:=none) h ⟨hb.os,hb.tape,hb.output,hb.size,fun k hk _=>hb.block k (by omega)⟩ ?_;cases hv:v.ownBlock<;>simp
theorem J0.less {w:World} {base base':Nat} {v:Value} {l:List UInt8} (h:J0 w base v l) (hb:base'≤base):J0 w base' v l:=by
 refine ⟨h.1,?_⟩;rcases h.2 with h2 | ⟨g,cap,cur,hv,hg,r⟩
 ·exact .inl h2
 ·exact .inr ⟨g,cap,cur,hv,by omega,r⟩
theorem J0.alloc {w:World} {base:Nat} {v:Value} {l:List UInt8} (h:J0 w base v l) (o:Obj):J0 (w.alloc o) base v l:=World.ownsRow.alloc h o
theorem J0.form {w:World} {base:Nat} {v:Value} {l:List UInt8} (h:J0 w base v l):∃A c,v=.slice A l.length c∧l.length≤c∧c≤9223372036854775807:=by
 obtain⟨A,c,h1,h2,h3,_⟩:=h.by_.open_;exact ⟨A,c,h1,h2,h3⟩
theorem J0.take {w:World} {base:Nat} {A:Option Addr} {n c:Nat} {l:List UInt8} (h:J0 w base (.slice A n c) l) {k:Nat} (hk:k≤l.length):J0 w base (.slice A k c) (l.take k):=by
 have aA:(l.take k).length=k:=by simp;omega
 refine ⟨by simp,?_⟩;rw[aA];rcases h.2 with ⟨hv,hn⟩ | ⟨g,cap,cur,hv,hg,hh,hc,hm,hs,ht⟩
 ·injection hv with e1 e2 e3;have:k=0:=by omega
  subst this;subst e1;subst e3;exact .inl ⟨rfl,rfl⟩
 ·injection hv with e1 e2 e3;subst e1;subst e3;refine .inr ⟨g,c,cur,rfl,hg,hh,by omega,hm,hs,?_⟩;rw[List.map_take,←ht,List.take_take];congr 1;omega
theorem C1q:(Tryz.prog.info? 5).map (fun i=>(i.zero,i.size,i.bytes))=some (some (.int .u8 0),1,1):=by kernel_rfl
section
variable (w : World) (base : Nat) (v : Value) (l : List UInt8)
theorem Qt {w w':World} {base:Nat} {v:Value} {l:List UInt8} (hown:J0 w base v l) (hg:w.grownBy w' v.ownBlock) (hb:base≤w.heap.size):Below base w w':=
 (Below.refl _ _).grown hg hb fun k hk=>(hown.lt k hk).1
theorem C8f (hown:J0 w base v l) (x:Value) (m:List UInt8) (lo B:Nat) (hx:By w lo B x m) (hsz:l.length+m.length≤70368744177664) (hb:base≤w.heap.size) (ty:TypeId) :
 ∃v' w',(Builtin.append_ #[38,38] ty #[v,x]).run Tryz.prog w=.ok v' w'∧J0 w' base v' (l++m)∧w.grownBy w' v.ownBlock∧(v'.ownBlock=v.ownBlock∨v'.ownBlock=some w.heap.size):=by
 obtain⟨i0,aB,aD,aE,aF⟩:=info_parts C1q;obtain⟨A,c,rfl,h2,h3,h4⟩:=hx.open_;have aA:∀u∈m.map v8,u.oneCell'=true:=by intro u hu;obtain⟨x,_,rfl⟩:=List.mem_map.1 hu;rfl
 have aC:∀a:Addr,(∀j u,(m.map v8)[j]?=some u→w.cell? (a.add j)=some u)→∃v' w',(Builtin.append_ #[38,38] ty #[v,.slice (some a) m.length c]).run Tryz.prog w=.ok v' w'∧J0 w' base v' (l++m)∧w.grownBy w' v.ownBlock∧(v'.ownBlock=v.ownBlock∨v'.ownBlock=some w.heap.size):=by
  intro a hc;obtain⟨v',w',h5,h6,h7,_,h8⟩:=run_append_own_at (P:=Tryz.prog) w base 38 ty 5 i0 (.int .u8 0) 1 1 Tryz.underlying38 aB aD aE aF rfl (by decide) v l.length (l.map v8) hown a m.length c (m.map v8) (by simp) hc aA
   (by simp only[maxLen];omega) (by omega) hb
  refine ⟨v',w',h5,?_,h7,h8⟩;unfold J0;rw[List.length_append,List.map_append];exact h6
 rcases h4 with h4 | ⟨g,o,rfl,_,_,hc⟩
 ·have hm:m=[]:=by simpa using h4
  subst hm;cases A with
  | some a=>exact aC a (by simp)
  | none=>
   exact ⟨v,w,Nk w base _ ty _ i0 1 Tryz.underlying38 aB v _ _ hown c,by simpa using hown,World.grownBy.refl w _,.inl rfl⟩
 ·exact aC ⟨g,o,none⟩ (fun j u hj=>by rw[P9];exact hc j u hj)
variable {ops : Array Oper} {rest : List Oper} {o : Oper} {a : Act} {Q : Exit → Act → World → Prop}
theorem Vm (hgd:o.guard=none) (s x:Operand) (ho:o.op=.call { callee:=.builtin .append,args:=#[s,x],argTypes:=#[38,38] })
 (hs:a.eval s=v) (hown:J0 w base v l) (y:Value) (hx:a.eval x=y) (m:List UInt8) (lo B:Nat) (hy:By w lo B y m) (hsz:l.length+m.length≤70368744177664) (hb:base≤w.heap.size)
 (h:∀A c w',(l++m).length≤c→c≤9223372036854775807→J0 w' base (.slice A (l++m).length c) (l++m)→Below base w w'→w.grownBy w' v.ownBlock→((Value.slice A (l++m).length c).ownBlock=v.ownBlock∨(Value.slice A (l++m).length c).ownBlock=some w.heap.size)→wpList Tryz.prog ops Q rest (a.put o.dst (.slice A (l++m).length c)) w'):wpList Tryz.prog ops Q (o::rest) a w:=
 wpList_plain hgd fun _ hK=>by
  obtain⟨v',w',hr,h2,h3,h4⟩:=C8f w base v l hown y m lo B hy hsz hb o.type;unfold Oper.wp execOp;simp only[ho,resolve,invoke,builtin,Sem.run_bind,Sem.run_pure,Result.andThen_ok,List.map_toArray,List.map_cons,List.map_nil,hs,hx,hr];obtain⟨A,c,rfl,aA,aB⟩:=h2.form;exact hK _ _ (h A c w' aA aB h2 (Qt hown h3 hb) h3 h4)
theorem Hx (hgd:o.guard=none) (s x:Operand) (ho:o.op=.call { callee:=.builtin .append,args:=#[s,x],argTypes:=#[38,38] })
 (hs:a.eval s=v) (hown:J0 w base v l) (c:Int) (b:UInt8) (hc:c=n8 b) (hx:a.eval x=.slice (some ⟨w.heap.size,0,none⟩) 1 1) (hsz:l.length≤35184372088832) (hb:base≤w.heap.size)
 (h:∀A c w',(l++[b]).length≤c→c≤9223372036854775807→J0 w' base (.slice A (l++[b]).length c) (l++[b])→Below base w w'→wpList Tryz.prog ops Q rest (a.put o.dst (.slice A (l++[b]).length c)) w'):wpList Tryz.prog ops Q (o::rest) a (w.alloc (.cells #[.int .u8 c] 5)):=by
 have hy:By (w.alloc (.cells #[.int .u8 c] 5)) 0 (w.heap.size+1) (.slice (some ⟨w.heap.size,0,none⟩) 1 1) [b]:=by
  refine By.mk_ (l:=[b]) (by simp) (by simp[maxLen]) (.inr ⟨_,_,rfl,Nat.zero_le _,by omega,fun j u hj=>?_⟩);have hB:=Bk.new w 5 [Value.int .u8 c];match j,hj with
  | 0,hj=>simp[v8,←hc]at hj;subst hj;exact hB.at_ rfl
  | j+1,hj=>simp at hj
 refine Vm _ base v l hgd s x ho hs (hown.alloc _) _ hx [b] 0 _ hy (by simp;omega) (by simp;omega) fun A c w' hc1 hc2 h1 h2 h3 h4=>h A c w' hc1 hc2 h1 ?_;exact ((Below.refl _ _).alloc hb _).trans h2
theorem Tm (hgd:o.guard=none) (s x:Operand) (ho:o.op=.call { callee:=.builtin .append,args:=#[s,x],argTypes:=#[38,3] })
 (hs:a.eval s=v) (hown:J0 w base v l) (n:Nat) (k:IntKind) (hx:a.eval x=.int k (n:Int)) (hsz:l.length+n≤70368744177664) (hb:base≤w.heap.size)
 (h:∀A c w',(l++List.replicate n 0).length≤c→c≤9223372036854775807→J0 w' base (.slice A (l++List.replicate n 0).length c) (l++List.replicate n 0)→Below base w w'→wpList Tryz.prog ops Q rest (a.put o.dst (.slice A (l++List.replicate n 0).length c)) w'):wpList Tryz.prog ops Q (o::rest) a w:=
 wpList_plain hgd fun _ hK=>by
  obtain⟨i0,aA,aB,aC,aD⟩:=info_parts C1q;obtain⟨v',w',hr,h2,h3,h4⟩:=Yb (P:=Tryz.prog) w base 38 3 o.type 5 i0 (.int .u8 0) 1 Tryz.underlying38 .i64 Tryz.underlying3 aA aB aC aD rfl rfl v l.length (l.map v8) hown k n
   (by simp only[maxLen];omega) (by omega) hb
  unfold Oper.wp execOp;simp only[ho,resolve,invoke,builtin,Sem.run_bind,Sem.run_pure,Result.andThen_ok,List.map_toArray,List.map_cons,List.map_nil,hs,hx,hr];have h5:J0 w' base v' (l++List.replicate n 0):=by
   unfold J0;rw[List.length_append,List.map_append,List.length_replicate,List.map_replicate];exact h2
  obtain⟨A,c,rfl,aE,aF⟩:=h5.form;exact hK _ _ (h A c w' aE aF h5 (Qt hown h3 hb))
end
end Go.Proofs.YtmllnpokbbabhaaGreat
namespace Go.Proofs.YtmllnpokbbabhaaGreat
open Go Go.RowKit Sh
theorem Nl {P:Program} {ops:Array Oper} {rest:List Oper} {o:Oper} {a:Act} {w:World} {Q:Exit→Act→World→Prop} (hg:o.guard=none) (t:TypeId) (parts:Array (Nat×Operand)) (ho:o.op=.build t parts)
 (cells:Array Value) (hf:P.built t (parts.map fun (i,x)=>(i,a.eval x)).toList=some cells)
 (h:wpList P ops Q rest (a.put o.dst (.agg cells)) w):wpList P ops Q (o::rest) a w:=
 wpList_build hg t parts ho (by rw[hf];rfl) (by rw[hf];exact h)
theorem C7 {P:Program} {fn:Func} {p:Tmp} {ty:TypeId} (h:fn.results=#[.cell p ty]) (tmps:Array Value) (w:World) (g:Nat) (t:TypeId) (cs:List Value) (d:TypeDesc)
 (hp:tmps.getD p undef=.pointer (some ⟨g,0,none⟩)) (hg:Bk w g t cs)
 (hu:P.underlying ty=some d) (hd:(match d with | .struct _ | .array _ _=>true | _=>false)=true) (hi:(P.info? ty).map (·.size)=some cs.length) :
 (results fn tmps).run P w=.ok (.agg cs.toArray) w:=results_cell_row h tmps w g t cs.toArray (0,0) d hp hg hu hd (by simpa using hi)
set_option maxRecDepth 100000 in
set_option maxHeartbeats 400000 in
theorem A5i (w:World) :
 Calls Tryz.prog 108 #[] w fun e w'=>e=.returned (H7 Bc)∧Below w.heap.size w w':=by
 have aA:Bc.length=8:=by decide +kernel
 go_enter Tryz.func108,Tryz.ntmps108;go_wp2_with (refine Nl rfl _ _ rfl (E4 Bc).toArray (by kernel_rfl) ?_);exact bodyPost_ret (C7 rfl _ _ _ _ _ _ rfl ((Bk.new w _ _).puts (by simp[aA])) Tryz.underlying195 rfl (by simp[B0t,aA])) rfl
  ⟨rfl,C0 ((Below.refl _ _).alloc (Nat.le_refl _) _) (Nat.le_refl _) _⟩
set_option maxRecDepth 100000 in
set_option maxHeartbeats 400000 in
theorem A5v (w:World) :
 Calls Tryz.prog 109 #[] w fun e w'=>e=.returned (H7 Z4)∧Below w.heap.size w w':=by
 have aA:Z4.length=80:=by decide +kernel
 go_enter Tryz.func109,Tryz.ntmps109;go_wp2_with (refine Nl rfl _ _ rfl (E4 Z4).toArray (by kernel_rfl) ?_);exact bodyPost_ret (C7 rfl _ _ _ _ _ _ rfl ((Bk.new w _ _).puts (by simp[aA])) Tryz.underlying197 rfl (by simp[B3z,aA])) rfl
  ⟨rfl,C0 ((Below.refl _ _).alloc (Nat.le_refl _) _) (Nat.le_refl _) _⟩
end Go.Proofs.YtmllnpokbbabhaaGreat
namespace Go.Proofs.YtmllnpokbbabhaaGreat
open Go Go.RowKit Sh
def M6 (w:World) (B:Nat) (v:Value) (ls:List (List UInt8)):Prop:=
 ∃vs:List Value,Sl w 0 B v vs∧vs.length=ls.length∧∀(i:Nat) (x:Value) (l:List UInt8),vs[i]?=some x→ls[i]?=some l→By w 0 B x l
theorem M6.below {w w':World} {B:Nat} {v:Value} {ls:List (List UInt8)} (h:M6 w B v ls) (hb:Below B w w'):M6 w' B v ls:=
 let ⟨vs,h1,h2,h3⟩:=h;⟨vs,h1.below hb,h2,fun i x l hx hl=>(h3 i x l hx hl).below hb⟩
theorem M6.more {w:World} {B B':Nat} {v:Value} {ls:List (List UInt8)} (h:M6 w B v ls) (hB:B≤B'):M6 w B' v ls:=
 let ⟨vs,h1,h2,h3⟩:=h;⟨vs,h1.more hB,h2,fun i x l hx hl=>(h3 i x l hx hl).more hB⟩
set_option maxHeartbeats 1000000 in
theorem C8c (n:Nat) (hn:n≤35184372088832) (w:World) :
 Calls Tryz.prog 174 #[.slice none 0 0,.int .i64 n] w fun e w'=>∃v,e=.returned v∧J0 w' w.heap.size v []∧Below w.heap.size w w':=by
 by_cases h0:n=0
 ·subst h0;go_enter Tryz.func174,Tryz.ntmps174;go_wp2;go_ret;exact ⟨_,rfl,J0.nil _ _,Below.refl _ _⟩
 ·have hp:(0:Int)<(n:Int):=by omega
  go_enter Tryz.func174,Tryz.ntmps174;go_wp2_with (at_builtin;refine Tm _ w.heap.size (.slice none 0 0) [] rfl _ _ rfl rfl (J0.nil _ _) n .i64 rfl (by simp;omega) (Nat.le_refl _) ?_;intro A c w1 aC aD aA aB);go_ret;exact ⟨_,rfl,by simpa using aA.take (k:=0) (Nat.zero_le _),aB⟩
def gl (ls:List (List UInt8)) (k:Nat):List UInt8:=ls.getD k []
def cat (ls:List (List UInt8)) (k:Nat):List UInt8:=(ls.take k).flatten
theorem M6.at_ {w:World} {B:Nat} {vs:List Value} {ls:List (List UInt8)} {k:Nat} (h2:vs.length=ls.length) (h3:∀(i:Nat) (x:Value) (l:List UInt8),vs[i]?=some x→ls[i]?=some l→By w 0 B x l) (hk:k<ls.length) :
 ∃A c,vs[k]?=some (.slice A (gl ls k).length c)∧(gl ls k).length≤c∧c≤9223372036854775807∧By w 0 B (.slice A (gl ls k).length c) (gl ls k):=by
 have hv:vs[k]?=some vs[k]:=List.getElem?_eq_getElem (by omega);have hl:ls[k]?=some (gl ls k):=by unfold gl;rw[List.getElem?_eq_getElem hk];simp[hk]
 have hb:=h3 k _ _ hv hl;obtain⟨A,c,e,h4,h5,_⟩:=hb.open_;exact ⟨A,c,by rw[hv,e],h4,h5,e▸hb⟩
theorem B5m (ls:List (List UInt8)) (k:Nat) (hk:k<ls.length):cat ls (k+1)=cat ls k++gl ls k:=by
 unfold cat gl;rw[List.take_add_one,List.flatten_append];simp[hk]
theorem C0c (ls:List (List UInt8)) (k:Nat):(cat ls k).length≤ls.flatten.length:=by
 have:ls.flatten=cat ls k++(ls.drop k).flatten:=by unfold cat;rw[←List.flatten_append,List.take_append_drop]
 rw[this,List.length_append];omega
theorem D4r (ls:List (List UInt8)):cat ls ls.length=ls.flatten:=by unfold cat;rw[List.take_length]
set_option maxHeartbeats 2000000 in
theorem Tu (v:Value) (ls:List (List UInt8)) (w:World) (hp:M6 w w.heap.size v ls) (hsz:ls.flatten.length≤17592186044416) :
 Calls Tryz.prog 129 #[v] w fun e w'=>∃u,e=.returned u∧J0 w' w.heap.size u ls.flatten∧Below w.heap.size w w':=by
 obtain⟨vs,⟨A,c,rfl,hc,aJ,aC⟩,aD,aE⟩:=hp;have aK:vs.length≤9223372036854775807:=by unfold maxLen at aJ;omega
 rw[aD]at aK hc;rw[aD];go_enter Tryz.func129,Tryz.ntmps129;go_wp2_with fail;go_loop [3,11] (fun s i=>∃k:Nat,k≤ls.length∧i=.int .i64 k∧s=.int .i64 ((cat ls k).length)) (fun _ i=>ls.length-(intOf i).toNat)
 case atStart=>exact ⟨0,Nat.zero_le _,rfl,rfl⟩
 case round=>
  obtain⟨k,hk,rfl,rfl⟩:=hrel;by_cases hlt:k<ls.length
  ·obtain⟨g,o,rfl,_,hg,aA⟩:=aC.some (by omega);obtain⟨Ak,ck,hx,_,_,_⟩:=M6.at_ aD aE hlt;have aL:=aA k _ hx;have aB:=B5m ls k hlt;have aF:=C0c ls (k+1);rw[aB,List.length_append]at aF;have HF:=Lib.hid aB;clear aB hx aA aE aC;have aO:(0:Int)≤(((cat ls k).length:Nat):Int)+((gl ls k).length:Nat):=by omega
   go_wp2_with fail;go_round;case rel=>exact ⟨k+1,by omega,by go_num,by rw[HF.out,List.length_append];go_num⟩
   case measure=>simp[intOf];omega
  ·obtain rfl:k=ls.length:=by omega
   have aF:=C0c ls ls.length;go_wp2_with fail;refine (C8c (cat ls ls.length).length (by omega) _).mono ?_;rintro e w1 ⟨u,rfl,ho,hb⟩;go_wp2_with fail;go_loopw [6,27] (fun u i wr=>∃k:Nat,k≤ls.length∧i=.int .i64 k∧J0 wr w.heap.size u (cat ls k)∧Below w.heap.size w wr) (fun _ i _=>ls.length-(intOf i).toNat)
   case atStart=>exact ⟨0,Nat.zero_le _,rfl,ho,hb⟩
   case round=>
    clear ho hb;obtain⟨k,hk,rfl,ho,hb⟩:=hrel;by_cases hlt:k<ls.length
    ·obtain⟨g,o,rfl,_,hg,aA⟩:=aC.some (by omega);obtain⟨Ak,ck,hx,aP,aQ,aH⟩:=M6.at_ aD aE hlt;have aL:wr.cell? ⟨g,o+k,none⟩=_:=(hb.cell (by exact hg)).trans (aA k _ hx);have aB:=B5m ls k hlt;have aF:=C0c ls (k+1);rw[aB,List.length_append]at aF;have HF:=Lib.hid aB;have aG:=aH.below hb;clear aB hx aA aE aC aH;go_wp2_with (at_builtin;refine Vm _ w.heap.size _ _ rfl _ _ rfl rfl ho _ rfl (gl ls k) 0 w.heap.size aG (by omega) hb.size ?_;intro A2 c2 w2 aR aS aI aM aT aN);go_roundw;case rel=>exact ⟨k+1,by omega,by go_num,by rw[List.length_append]at aI;rw[HF.out];exact aI,hb.trans aM⟩
     case measure=>simp[intOf];omega
    ·obtain rfl:k=ls.length:=by omega
     have ca:=Lib.hid (D4r ls);go_wp2_with fail;go_ret;exact ⟨_,rfl,by rw[←ca.out];exact ho,hb⟩
def pz (m:List UInt8) (j:Nat):List UInt8:=m++[128]++List.replicate j 0
theorem U5 (m:List UInt8) (j:Nat):(pz m j).length=m.length+1+j:=by simp[pz];omega
theorem C1r (m:List UInt8):pz m 0=m++[128]:=by simp[pz]
theorem A0d (m:List UInt8) (j:Nat):pz m (j+1)=pz m j++[0]:=by simp[pz,List.replicate_succ']
def ps (P:List UInt8) (N:UInt64) (j:Nat):List UInt8:=P++(J8 N).take j
theorem Sa (P:List UInt8) (N:UInt64) (j:Nat) (hj:j≤8):(ps P N j).length=P.length+j:=by
 have:(J8 N).length=8:=rfl;simp[ps,this];omega
theorem D4j (P:List UInt8) (N:UInt64) (j:Nat) (b:UInt8) (hb:(J8 N)[j]?=some b):ps P N j++[b]=ps P N (j+1):=by
 unfold ps;rw[List.take_add_one,hb];simp
theorem D0m {w:World} {base:Nat} {A:Option Addr} {c j:Nat} {P:List UInt8} {N:UInt64} {b:UInt8} (hj:j<8) (hb:(J8 N)[j]?=some b) (hd1:(ps P N j++[b]).length≤c) (hd2:c≤9223372036854775807)
 (ho:J0 w base (.slice A (ps P N j++[b]).length c) (ps P N j++[b])) :
 Value.slice A ((ps P N j).length+1) c=.slice A (P.length+(j+1)) c∧P.length+(j+1)≤c∧c≤9223372036854775807∧J0 w base (.slice A (P.length+(j+1)) c) (ps P N (j+1)):=by
 have h1:=Sa P N j (by omega);have h2:=Sa P N (j+1) (by omega);rw[D4j P N j b hb,h2]at hd1 ho;exact ⟨by rw[h1,Nat.add_assoc],hd1,hd2,ho⟩
def B4a:Value→Nat | .slice _ n _=>n | _=>0
set_option maxHeartbeats 8000000 in
theorem C6d (v:Value) (ls:List (List UInt8)) (w:World) (hp:M6 w w.heap.size v ls) (hsz:ls.flatten.length≤1099511627776) :
 Calls Tryz.prog 110 #[v,.int .i64 64] w fun e w'=>∃u,e=.returned u∧By w' w.heap.size w'.heap.size u (pad 64 ls.flatten)∧Below w.heap.size w w':=by
 go_enter Tryz.func110,Tryz.ntmps110;go_wp2_with fail;refine (Tu v ls w hp (by omega)).mono ?_;rintro e w1 ⟨u,rfl,ho,hb⟩;have hn:=hsz;generalize hm:ls.flatten=m at *;have Hm:=Lib.hid hm;clear hm hp hsz;obtain⟨A,c,rfl,hc,aR⟩:=ho.form;have aF:pad 64 m=pz m (A6d 64 m.length)++List.replicate 0 0++J8 (8*UInt64.ofNat m.length):=rfl;have aK:=Lib.hid aF;clear aF;generalize hml:m.length=n at *;have hw:IntKind.u64.wrap (n:Int)=E6 (UInt64.ofNat n):=by
  rw[Ep];unfold E6;simp
 have aB:=Lib.hid hml;clear hml;go_wp2_with (at_builtin;refine Hx _ w.heap.size _ m rfl _ _ rfl rfl ho 128 128 rfl rfl (by rw[aB.out];omega) hb.size ?_;intro A2 c2 w2 aG aH aA aC);have aI:=hb.trans aC;rw[←C1r]at aA;clear ho hb aC hc aR;generalize hz:A6d 64 n=z at *;have aL:z=(64-(n+1+8) % 64) % 64:=by rw[←hz];rfl
 have aM:=Lib.hid aL;have aV:z<64:=by omega
 clear hz aL;go_loopw [5] (fun b wr=>∃(j:Nat) (A:Option Addr) (c:Nat),j≤z∧b=.slice A (n+1+j) c∧n+1+j≤c∧c≤9223372036854775807∧J0 wr w.heap.size (.slice A (n+1+j) c) (pz m j)∧Below w.heap.size w wr) (fun b _=>n+1+z-B4a b)
 case atStart=>exact ⟨0,A2,c2,Nat.zero_le _,by simp[aB.out],by simpa [aB.out] using aG,aH,by simpa [U5,aB.out,pz] using aA,aI⟩
 case round=>
  clear aA aI aG aH;obtain⟨j,A,c,hj,rfl,aG,aH,ho,hb⟩:=hrel;by_cases hlt:j<z
  ·have aN:((n:Int)+1+j+8) % 64≠0:=by have:=aM.out;omega
   go_wp2_with (at_builtin;refine Hx _ w.heap.size _ (pz m j) rfl _ _ rfl rfl ho 0 0 rfl rfl (by rw[U5,aB.out];omega) hb.size ?_;intro A2 c2 w2 aD aE aA aC);have he:(pz m j++[0]).length=n+1+(j+1):=by rw[←A0d,U5,aB.out]
   rw[he]at aD aA;rw[←A0d]at aA;go_roundw;case rel=>exact ⟨j+1,A2,c2,by omega,by rw[show (pz m j).length+1=n+1+(j+1) from by rw[U5,aB.out];omega],aD,aE,aA,hb.trans aC⟩
   case measure=>simp[B4a,U5,aB.out];omega
  ·obtain rfl:j=z:=by omega
   have aN:((n:Int)+1+j+8) % 64=0:=by have:=aM.out;omega
   go_wp2_with (at_builtin;refine Tm _ w.heap.size _ (pz m j) rfl _ _ rfl rfl ho 0 .i64 rfl (by rw[U5,aB.out];omega) hb.size ?_;intro A2 c2 w2 aD aE aA aC);have aO:=hb.trans aC;generalize hP:pz m j++List.replicate 0 0=P at *;have aP:P.length=n+1+j+0:=by rw[←hP];simp[U5,aB.out]
   have HP:=Lib.hid hP;have aJ:=Lib.hid aP;clear hP aP ho hb aC aN hlt aG aH;go_wp2_with fail;go_loopw [5,7] (fun b i wr=>∃(j:Nat) (A:Option Addr) (c:Nat),j≤8∧i=.int .i64 (56-8*(j:Int))∧(b=.slice A (P.length+j) c∧P.length+j≤c∧c≤9223372036854775807∧J0 wr w.heap.size (.slice A (P.length+j) c) (ps P (8*UInt64.ofNat n) j))∧Below w.heap.size w wr) (fun b i _=>(intOf i+8).toNat)
   case atStart=>exact ⟨0,A2,c2,by omega,rfl,⟨by simp[aJ.out,U5,aB.out],by simpa [aJ.out] using aD,aE,by simpa [aJ.out,ps] using aA⟩,aO⟩
   case round=>
    clear aA aO aD aE;obtain⟨j,A,c,hj,rfl,⟨rfl,aG,aH,ho⟩,hb⟩:=hrel;have aQ:=aJ.out;have aS:P.length+j≤35184372088832:=by omega
    have aW:P.length≤1099511627976:=by omega
    have aX:=Lib.hid aQ;clear aQ;by_cases hlt:j<8
    ·have aT:j=0∨j=1∨j=2∨j=3∨j=4∨j=5∨j=6∨j=7:=by omega
     have hl:=Sa P (8*UInt64.ofNat n) j hj;have aU:(ps P (8*UInt64.ofNat n) j).length≤35184372088832:=by omega
     clear hl aS;rcases aT with rfl | rfl | rfl | rfl | rfl | rfl | rfl | rfl;all_goals
      go_wp2_with (at_builtin;refine Hx _ w.heap.size _ (ps P (8*UInt64.ofNat n) _) rfl _ _ rfl rfl ho _ _ rfl rfl aU hb.size ?_;intro A2 c2 w2 aD aE aA aC);have R:=D0m (by omega) (by simp[J8]) aD aE aA;go_roundw;case rel=>exact ⟨_,A2,c2,by omega,by go_num,R,hb.trans aC⟩
      case measure=>simp[intOf]
    ·obtain rfl:j=8:=by omega
     have e:pad 64 m=ps P (8*UInt64.ofNat n) 8:=by rw[aK.out];rfl
     have he:=Lib.hid e;clear e;go_wp2_with fail;go_ret;exact ⟨_,rfl,by rw[Hm.out,Hid.out he];exact J0.by_ ho,hb⟩
set_option maxHeartbeats 8000000 in
theorem B6y (v:Value) (ls:List (List UInt8)) (w:World) (hp:M6 w w.heap.size v ls) (hsz:ls.flatten.length≤1099511627776) :
 Calls Tryz.prog 110 #[v,.int .i64 128] w fun e w'=>∃u,e=.returned u∧By w' w.heap.size w'.heap.size u (pad 128 ls.flatten)∧Below w.heap.size w w':=by
 go_enter Tryz.func110,Tryz.ntmps110;go_wp2_with fail;refine (Tu v ls w hp (by omega)).mono ?_;rintro e w1 ⟨u,rfl,ho,hb⟩;have hn:=hsz;generalize hm:ls.flatten=m at *;have Hm:=Lib.hid hm;clear hm hp hsz;obtain⟨A,c,rfl,hc,aR⟩:=ho.form;have aF:pad 128 m=pz m (A6d 128 m.length)++List.replicate 8 0++J8 (8*UInt64.ofNat m.length):=rfl;have aK:=Lib.hid aF;clear aF;generalize hml:m.length=n at *;have hw:IntKind.u64.wrap (n:Int)=E6 (UInt64.ofNat n):=by
  rw[Ep];unfold E6;simp
 have aB:=Lib.hid hml;clear hml;go_wp2_with (at_builtin;refine Hx _ w.heap.size _ m rfl _ _ rfl rfl ho 128 128 rfl rfl (by rw[aB.out];omega) hb.size ?_;intro A2 c2 w2 aG aH aA aC);have aI:=hb.trans aC;rw[←C1r]at aA;clear ho hb aC hc aR;generalize hz:A6d 128 n=z at *;have aL:z=(128-(n+1+16) % 128) % 128:=by rw[←hz];rfl
 have aM:=Lib.hid aL;have aV:z<128:=by omega
 clear hz aL;go_loopw [5] (fun b wr=>∃(j:Nat) (A:Option Addr) (c:Nat),j≤z∧b=.slice A (n+1+j) c∧n+1+j≤c∧c≤9223372036854775807∧J0 wr w.heap.size (.slice A (n+1+j) c) (pz m j)∧Below w.heap.size w wr) (fun b _=>n+1+z-B4a b)
 case atStart=>exact ⟨0,A2,c2,Nat.zero_le _,by simp[aB.out],by simpa [aB.out] using aG,aH,by simpa [U5,aB.out,pz] using aA,aI⟩
 case round=>
  clear aA aI aG aH;obtain⟨j,A,c,hj,rfl,aG,aH,ho,hb⟩:=hrel;by_cases hlt:j<z
  ·have aN:((n:Int)+1+j+16) % 128≠0:=by have:=aM.out;omega
   go_wp2_with (at_builtin;refine Hx _ w.heap.size _ (pz m j) rfl _ _ rfl rfl ho 0 0 rfl rfl (by rw[U5,aB.out];omega) hb.size ?_;intro A2 c2 w2 aD aE aA aC);have he:(pz m j++[0]).length=n+1+(j+1):=by rw[←A0d,U5,aB.out]
   rw[he]at aD aA;rw[←A0d]at aA;go_roundw;case rel=>exact ⟨j+1,A2,c2,by omega,by rw[show (pz m j).length+1=n+1+(j+1) from by rw[U5,aB.out];omega],aD,aE,aA,hb.trans aC⟩
   case measure=>simp[B4a,U5,aB.out];omega
  ·obtain rfl:j=z:=by omega
   have aN:((n:Int)+1+j+16) % 128=0:=by have:=aM.out;omega
   go_wp2_with (at_builtin;refine Tm _ w.heap.size _ (pz m j) rfl _ _ rfl rfl ho 8 .i64 rfl (by rw[U5,aB.out];omega) hb.size ?_;intro A2 c2 w2 aD aE aA aC);have aO:=hb.trans aC;generalize hP:pz m j++List.replicate 8 0=P at *;have aP:P.length=n+1+j+8:=by rw[←hP];simp[U5,aB.out]
   have HP:=Lib.hid hP;have aJ:=Lib.hid aP;clear hP aP ho hb aC aN hlt aG aH;go_wp2_with fail;go_loopw [5,7] (fun b i wr=>∃(j:Nat) (A:Option Addr) (c:Nat),j≤8∧i=.int .i64 (56-8*(j:Int))∧(b=.slice A (P.length+j) c∧P.length+j≤c∧c≤9223372036854775807∧J0 wr w.heap.size (.slice A (P.length+j) c) (ps P (8*UInt64.ofNat n) j))∧Below w.heap.size w wr) (fun b i _=>(intOf i+8).toNat)
   case atStart=>exact ⟨0,A2,c2,by omega,rfl,⟨by simp[aJ.out,U5,aB.out],by simpa [aJ.out] using aD,aE,by simpa [aJ.out,ps] using aA⟩,aO⟩
   case round=>
    clear aA aO aD aE;obtain⟨j,A,c,hj,rfl,⟨rfl,aG,aH,ho⟩,hb⟩:=hrel;have aQ:=aJ.out;have aS:P.length+j≤35184372088832:=by omega
    have aW:P.length≤1099511627976:=by omega
    have aX:=Lib.hid aQ;clear aQ;by_cases hlt:j<8
    ·have aT:j=0∨j=1∨j=2∨j=3∨j=4∨j=5∨j=6∨j=7:=by omega
     have hl:=Sa P (8*UInt64.ofNat n) j hj;have aU:(ps P (8*UInt64.ofNat n) j).length≤35184372088832:=by omega
     clear hl aS;rcases aT with rfl | rfl | rfl | rfl | rfl | rfl | rfl | rfl;all_goals
      go_wp2_with (at_builtin;refine Hx _ w.heap.size _ (ps P (8*UInt64.ofNat n) _) rfl _ _ rfl rfl ho _ _ rfl rfl aU hb.size ?_;intro A2 c2 w2 aD aE aA aC);have R:=D0m (by omega) (by simp[J8]) aD aE aA;go_roundw;case rel=>exact ⟨_,A2,c2,by omega,by go_num,R,hb.trans aC⟩
      case measure=>simp[intOf]
    ·obtain rfl:j=8:=by omega
     have e:pad 128 m=ps P (8*UInt64.ofNat n) 8:=by rw[aK.out];rfl
     have he:=Lib.hid e;clear e;go_wp2_with fail;go_ret;exact ⟨_,rfl,by rw[Hm.out,Hid.out he];exact J0.by_ ho,hb⟩
theorem A3w (block:Nat) (hbl:block=64∨block=128) (v:Value) (ls:List (List UInt8)) (w:World) (hp:M6 w w.heap.size v ls) (hsz:ls.flatten.length≤1099511627776) :
 Calls Tryz.prog 110 #[v,.int .i64 block] w fun e w'=>∃u,e=.returned u∧By w' w.heap.size w'.heap.size u (pad block ls.flatten)∧Below w.heap.size w w':=by
 rcases hbl with rfl | rfl
 ·exact C6d v ls w hp hsz
 ·exact B6y v ls w hp hsz
end Go.Proofs.YtmllnpokbbabhaaGreat
