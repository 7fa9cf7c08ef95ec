/- A part of the proof of ClientForks. -/
import Derived.WalkKit
import Derived.Deep.Draws
import Derived.Maps.AppendAt
import Derived.OwnWalk
import Derived.Deep.MidRow
import Derived.KernelRfl
import Derived.WalkLawsBesides
import Derived.Outline
import Derived.Lib.Hide
import Derived.Test.YtdfpoofbgjilgaaGreatProg
set_option linter.unusedVariables false
set_option linter.unusedSimpArgs false
namespace Go.Proofs.YtdfpoofbgjilgaaGreat
open Go.RowKit
theorem B8t (n x:Nat) (h:x<2 ^ n):x ^^^ (2 ^ n-1)=2 ^ n-(x+1):=by
 refine Nat.eq_of_testBit_eq fun i=>?_;rw[Nat.testBit_xor,Nat.testBit_two_pow_sub_succ h,Nat.testBit_two_pow_sub_one];by_cases hi:i<n
 ·simp[hi]
 ·have:x.testBit i=false:=Nat.testBit_lt_two_pow (Nat.lt_of_lt_of_le h (Nat.pow_le_pow_right (by omega) (by omega)));simp[hi,this]
def n8 (x:UInt8):Int:=(x.toNat:Int)
def Y9 (x:UInt32):Int:=(x.toNat:Int)
def C8 (x:UInt64):Int:=(x.toNat:Int)
theorem A0x (n:Nat):IntKind.u8.wrap (n:Int)=((n % 256:Nat):Int):=by
 simp[IntKind.wrap,IntKind.bits,IntKind.signed]
theorem lt8 (x:UInt8):x.toNat<256:=UInt8.toNat_lt x
theorem E9f (x:UInt8):0≤n8 x∧n8 x<256:=by unfold n8;have:=lt8 x;omega
theorem C6c {x y:UInt8} (h:n8 x=n8 y):x=y:=by
 unfold n8 at h;exact UInt8.toNat_inj.1 (by omega)
section
variable (x y : UInt8)
@[go_sem ↓ high] theorem C9v : Op.intBits .and .u8 (n8 x) (n8 y) = pure (.int .u8 (n8 (x &&& y))) := by
 unfold n8;have h:=u8_and_nat x.toNat y.toNat (lt8 x) (lt8 y);rw[UInt8.toNat_and];exact congrArg (fun n=>pure (Value.int .u8 n)) h
@[go_sem ↓ high] theorem or8 : Op.intBits .or .u8 (n8 x) (n8 y) = pure (.int .u8 (n8 (x ||| y))) := by
 unfold n8;have h:=u8_or_nat x.toNat y.toNat (lt8 x) (lt8 y);rw[UInt8.toNat_or];exact congrArg (fun n=>pure (Value.int .u8 n)) h
@[go_sem ↓ high] theorem F8q : Op.intBits .xor .u8 (n8 x) (n8 y) = pure (.int .u8 (n8 (x ^^^ y))) := by
 unfold n8;have h:=u8_xor_nat x.toNat y.toNat (lt8 x) (lt8 y);rw[UInt8.toNat_xor];exact congrArg (fun n=>pure (Value.int .u8 n)) h
@[go_sem ↓ high] theorem F7a : Op.intArith .add .u8 (n8 x) (n8 y) = pure (.int .u8 (n8 (x + y))) := by
 unfold Op.intArith n8;rw[show (x.toNat:Int)+(y.toNat:Int)=((x.toNat+y.toNat:Nat):Int) from by omega];simp only[A0x];rw[UInt8.toNat_add]
@[go_sem ↓ high] theorem Ty (k : IntKind) (s : Nat) (hs : s < 8) : Op.shift .shr .u8 (n8 x) k (s : Int) = pure (.int .u8 (n8 (x >>> UInt8.ofNat s))) := by
 unfold Op.shift n8;rw[if_neg (by omega)];have hm:min s 8=s:=by omega
 have aA:(UInt8.ofNat s).toNat % 8=s:=by rw[UInt8.toNat_ofNat'];omega
 simp only[IntKind.bits,Int.toNat_natCast,hm,UInt8.toNat_shiftRight,aA,Nat.shiftRight_eq_div_pow];congr 2;rw[show ((2:Int) ^ s)=((2 ^ s:Nat):Int) from by simp];rw[Int.fdiv_eq_ediv_of_nonneg _ (Int.natCast_nonneg _)];rw[Int.natCast_ediv]
@[go_sem ↓ high] theorem Yy (k : IntKind) (s : Nat) (hs : s < 8) : Op.shift .shl .u8 (n8 x) k (s : Int) = pure (.int .u8 (n8 (x <<< UInt8.ofNat s))) := by
 unfold Op.shift n8;rw[if_neg (by omega)];have hm:min s 8=s:=by omega
 have aA:(UInt8.ofNat s).toNat % 8=s:=by rw[UInt8.toNat_ofNat'];omega
 simp only[IntKind.bits,Int.toNat_natCast,hm,UInt8.toNat_shiftLeft,aA,Nat.shiftLeft_eq];rw[show (x.toNat:Int)*((2:Int) ^ s)=((x.toNat*2 ^ s:Nat):Int) from by simp];rw[A0x]
theorem Vc:(n8 x==n8 y)=(x==y):=by
 rw[Bool.eq_iff_iff];simp only[beq_iff_eq];exact ⟨C6c,fun h=>by rw[h]⟩
end
theorem Tn (n:Nat):IntKind.u32.wrap (n:Int)=((n % 4294967296:Nat):Int):=by
 simp[IntKind.wrap,IntKind.bits,IntKind.signed]
theorem Xs (x:UInt32):x.toNat<4294967296:=UInt32.toNat_lt x
theorem E0h (x:UInt32):0≤Y9 x∧Y9 x<4294967296:=by unfold Y9;have:=Xs x;omega
section
variable (x y : UInt32)
@[go_sem ↓ high] theorem F8l : Op.intBits .and .u32 (Y9 x) (Y9 y) = pure (.int .u32 (Y9 (x &&& y))) := by
 unfold Y9;have h:=u32_and_nat x.toNat y.toNat (Xs x) (Xs y);rw[UInt32.toNat_and];exact congrArg (fun n=>pure (Value.int .u32 n)) h
@[go_sem ↓ high] theorem F8t : Op.intBits .or .u32 (Y9 x) (Y9 y) = pure (.int .u32 (Y9 (x ||| y))) := by
 unfold Y9;have h:=u32_or_nat x.toNat y.toNat (Xs x) (Xs y);rw[UInt32.toNat_or];exact congrArg (fun n=>pure (Value.int .u32 n)) h
@[go_sem ↓ high] theorem F8i : Op.intBits .xor .u32 (Y9 x) (Y9 y) = pure (.int .u32 (Y9 (x ^^^ y))) := by
 unfold Y9;have h:=u32_xor_nat x.toNat y.toNat (Xs x) (Xs y);rw[UInt32.toNat_xor];exact congrArg (fun n=>pure (Value.int .u32 n)) h
@[go_sem ↓ high] theorem add32 : Op.intArith .add .u32 (Y9 x) (Y9 y) = pure (.int .u32 (Y9 (x + y))) := by
 unfold Op.intArith Y9;rw[show (x.toNat:Int)+(y.toNat:Int)=((x.toNat+y.toNat:Nat):Int) from by omega];simp only[Tn];rw[UInt32.toNat_add]
@[go_sem high] theorem F8n : Op.unary .xor (.int .u32 (Y9 x)) = pure (.int .u32 (Y9 (~~~x))) := by
 have h:=u32_xor_nat 4294967295 x.toNat (by decide) (Xs x);have e:Op.unary .xor (.int .u32 (x.toNat:Int))=pure (.int .u32 (bits .xor .u32 (4294967295:Nat) (x.toNat:Int))):=rfl;unfold Y9;rw[e,h,UInt32.toNat_not,Nat.xor_comm];congr 3;have hl:=Xs x;have e2:x.toNat ^^^ 4294967295=4294967296-(x.toNat+1):=B8t 32 x.toNat hl;rw[show UInt32.size=4294967296 from rfl];omega
@[go_sem ↓ high] theorem Zx (k : IntKind) (s : Nat) (hs : s < 32) : Op.shift .shr .u32 (Y9 x) k (s : Int) = pure (.int .u32 (Y9 (x >>> UInt32.ofNat s))) := by
 unfold Op.shift Y9;rw[if_neg (by omega)];have hm:min s 32=s:=by omega
 have aA:(UInt32.ofNat s).toNat % 32=s:=by rw[UInt32.toNat_ofNat'];omega
 simp only[IntKind.bits,Int.toNat_natCast,hm,UInt32.toNat_shiftRight,aA,Nat.shiftRight_eq_div_pow];congr 2;rw[show ((2:Int) ^ s)=((2 ^ s:Nat):Int) from by simp];rw[Int.fdiv_eq_ediv_of_nonneg _ (Int.natCast_nonneg _)];rw[Int.natCast_ediv]
@[go_sem ↓ high] theorem A2l (k : IntKind) (s : Nat) (hs : s < 32) : Op.shift .shl .u32 (Y9 x) k (s : Int) = pure (.int .u32 (Y9 (x <<< UInt32.ofNat s))) := by
 unfold Op.shift Y9;rw[if_neg (by omega)];have hm:min s 32=s:=by omega
 have aA:(UInt32.ofNat s).toNat % 32=s:=by rw[UInt32.toNat_ofNat'];omega
 simp only[IntKind.bits,Int.toNat_natCast,hm,UInt32.toNat_shiftLeft,aA,Nat.shiftLeft_eq];rw[show (x.toNat:Int)*((2:Int) ^ s)=((x.toNat*2 ^ s:Nat):Int) from by simp];rw[Tn]
end
theorem Eb (n:Nat):IntKind.u64.wrap (n:Int)=((n % 18446744073709551616:Nat):Int):=by
 simp[IntKind.wrap,IntKind.bits,IntKind.signed]
theorem Hi (x:UInt64):x.toNat<18446744073709551616:=UInt64.toNat_lt x
theorem E1u (x:UInt64):0≤C8 x∧C8 x<18446744073709551616:=by unfold C8;have:=Hi x;omega
theorem A6f {x y:UInt64} (h:C8 x=C8 y):x=y:=by
 unfold C8 at h;exact UInt64.toNat_inj.1 (by omega)
section
variable (x y : UInt64)
@[go_sem ↓ high] theorem A9o : Op.intBits .and .u64 (C8 x) (C8 y) = pure (.int .u64 (C8 (x &&& y))) := by
 unfold C8;have h:=u64_and_nat x.toNat y.toNat (Hi x) (Hi y);rw[UInt64.toNat_and];exact congrArg (fun n=>pure (Value.int .u64 n)) h
@[go_sem ↓ high] theorem F8c : Op.intBits .or .u64 (C8 x) (C8 y) = pure (.int .u64 (C8 (x ||| y))) := by
 unfold C8;have h:=u64_or_nat x.toNat y.toNat (Hi x) (Hi y);rw[UInt64.toNat_or];exact congrArg (fun n=>pure (Value.int .u64 n)) h
@[go_sem ↓ high] theorem F8j : Op.intBits .xor .u64 (C8 x) (C8 y) = pure (.int .u64 (C8 (x ^^^ y))) := by
 unfold C8;have h:=u64_xor_nat x.toNat y.toNat (Hi x) (Hi y);rw[UInt64.toNat_xor];exact congrArg (fun n=>pure (Value.int .u64 n)) h
@[go_sem ↓ high] theorem add64 : Op.intArith .add .u64 (C8 x) (C8 y) = pure (.int .u64 (C8 (x + y))) := by
 unfold Op.intArith C8;rw[show (x.toNat:Int)+(y.toNat:Int)=((x.toNat+y.toNat:Nat):Int) from by omega];simp only[Eb];rw[UInt64.toNat_add]
@[go_sem ↓ high] theorem A5w : Op.intArith .mul .u64 (C8 x) (C8 y) = pure (.int .u64 (C8 (x * y))) := by
 unfold Op.intArith C8;rw[show (x.toNat:Int)*(y.toNat:Int)=((x.toNat*y.toNat:Nat):Int) from by simp];simp only[Eb];rw[UInt64.toNat_mul]
@[go_sem high] theorem F8k : Op.unary .xor (.int .u64 (C8 x)) = pure (.int .u64 (C8 (~~~x))) := by
 have h:=u64_xor_nat 18446744073709551615 x.toNat (by decide) (Hi x);have e:Op.unary .xor (.int .u64 (x.toNat:Int))=pure (.int .u64 (bits .xor .u64 (18446744073709551615:Nat) (x.toNat:Int))):=rfl;unfold C8;rw[e,h,UInt64.toNat_not,Nat.xor_comm];congr 3;have hl:=Hi x;have e2:x.toNat ^^^ 18446744073709551615=18446744073709551616-(x.toNat+1):=B8t 64 x.toNat hl;rw[show UInt64.size=18446744073709551616 from rfl];omega
@[go_sem ↓ high] theorem V9 (k : IntKind) (s : Nat) (hs : s < 64) : Op.shift .shr .u64 (C8 x) k (s : Int) = pure (.int .u64 (C8 (x >>> UInt64.ofNat s))) := by
 unfold Op.shift C8;rw[if_neg (by omega)];have hm:min s 64=s:=by omega
 have aA:(UInt64.ofNat s).toNat % 64=s:=by rw[UInt64.toNat_ofNat'];omega
 simp only[IntKind.bits,Int.toNat_natCast,hm,UInt64.toNat_shiftRight,aA,Nat.shiftRight_eq_div_pow];congr 2;rw[show ((2:Int) ^ s)=((2 ^ s:Nat):Int) from by simp];rw[Int.fdiv_eq_ediv_of_nonneg _ (Int.natCast_nonneg _)];rw[Int.natCast_ediv]
@[go_sem ↓ high] theorem U4 (k : IntKind) (s : Nat) (hs : s < 64) : Op.shift .shl .u64 (C8 x) k (s : Int) = pure (.int .u64 (C8 (x <<< UInt64.ofNat s))) := by
 unfold Op.shift C8;rw[if_neg (by omega)];have hm:min s 64=s:=by omega
 have aA:(UInt64.ofNat s).toNat % 64=s:=by rw[UInt64.toNat_ofNat'];omega
 simp only[IntKind.bits,Int.toNat_natCast,hm,UInt64.toNat_shiftLeft,aA,Nat.shiftLeft_eq];rw[show (x.toNat:Int)*((2:Int) ^ s)=((x.toNat*2 ^ s:Nat):Int) from by simp];rw[Eb]
theorem D2y:(C8 x==C8 y)=(x==y):=by
 rw[Bool.eq_iff_iff];simp only[beq_iff_eq];exact ⟨A6f,fun h=>by rw[h]⟩
theorem D4o:(C8 x != C8 y)=(x != y):=by simp only[bne,D2y]
end
@[go_sem ↓ high] theorem F7s (x : UInt8) (k : IntKind) : Op.shift .shr .u8 (n8 x) k 1 = pure (.int .u8 (n8 (x >>> 1))) := Ty x k 1 (by decide)
@[go_sem ↓ high] theorem F6z (x : UInt8) (k : IntKind) : Op.shift .shl .u8 (n8 x) k 1 = pure (.int .u8 (n8 (x <<< 1))) := Yy x k 1 (by decide)
@[go_sem ↓ high] theorem F5t (x : UInt8) (k : IntKind) : Op.shift .shr .u8 (n8 x) k 2 = pure (.int .u8 (n8 (x >>> 2))) := Ty x k 2 (by decide)
@[go_sem ↓ high] theorem F8g (x : UInt8) (k : IntKind) : Op.shift .shl .u8 (n8 x) k 2 = pure (.int .u8 (n8 (x <<< 2))) := Yy x k 2 (by decide)
@[go_sem ↓ high] theorem F7t (x : UInt8) (k : IntKind) : Op.shift .shr .u8 (n8 x) k 3 = pure (.int .u8 (n8 (x >>> 3))) := Ty x k 3 (by decide)
@[go_sem ↓ high] theorem F7l (x : UInt8) (k : IntKind) : Op.shift .shl .u8 (n8 x) k 3 = pure (.int .u8 (n8 (x <<< 3))) := Yy x k 3 (by decide)
@[go_sem ↓ high] theorem F5z (x : UInt8) (k : IntKind) : Op.shift .shr .u8 (n8 x) k 4 = pure (.int .u8 (n8 (x >>> 4))) := Ty x k 4 (by decide)
@[go_sem ↓ high] theorem F6u (x : UInt8) (k : IntKind) : Op.shift .shl .u8 (n8 x) k 4 = pure (.int .u8 (n8 (x <<< 4))) := Yy x k 4 (by decide)
@[go_sem ↓ high] theorem F7f (x : UInt8) (k : IntKind) : Op.shift .shr .u8 (n8 x) k 5 = pure (.int .u8 (n8 (x >>> 5))) := Ty x k 5 (by decide)
@[go_sem ↓ high] theorem F6g (x : UInt8) (k : IntKind) : Op.shift .shl .u8 (n8 x) k 5 = pure (.int .u8 (n8 (x <<< 5))) := Yy x k 5 (by decide)
@[go_sem ↓ high] theorem F6q (x : UInt8) (k : IntKind) : Op.shift .shr .u8 (n8 x) k 6 = pure (.int .u8 (n8 (x >>> 6))) := Ty x k 6 (by decide)
@[go_sem ↓ high] theorem F7b (x : UInt8) (k : IntKind) : Op.shift .shl .u8 (n8 x) k 6 = pure (.int .u8 (n8 (x <<< 6))) := Yy x k 6 (by decide)
@[go_sem ↓ high] theorem F6d (x : UInt8) (k : IntKind) : Op.shift .shr .u8 (n8 x) k 7 = pure (.int .u8 (n8 (x >>> 7))) := Ty x k 7 (by decide)
@[go_sem ↓ high] theorem F6c (x : UInt8) (k : IntKind) : Op.shift .shl .u8 (n8 x) k 7 = pure (.int .u8 (n8 (x <<< 7))) := Yy x k 7 (by decide)
@[go_sem ↓ high] theorem F4g (x : UInt32) (k : IntKind) : Op.shift .shr .u32 (Y9 x) k 3 = pure (.int .u32 (Y9 (x >>> 3))) := Zx x k 3 (by decide)
@[go_sem ↓ high] theorem F3o (x : UInt32) (k : IntKind) : Op.shift .shl .u32 (Y9 x) k 3 = pure (.int .u32 (Y9 (x <<< 3))) := A2l x k 3 (by decide)
@[go_sem ↓ high] theorem F3w (x : UInt32) (k : IntKind) : Op.shift .shr .u32 (Y9 x) k 8 = pure (.int .u32 (Y9 (x >>> 8))) := Zx x k 8 (by decide)
@[go_sem ↓ high] theorem F3r (x : UInt32) (k : IntKind) : Op.shift .shl .u32 (Y9 x) k 8 = pure (.int .u32 (Y9 (x <<< 8))) := A2l x k 8 (by decide)
@[go_sem ↓ high] theorem F1k (x : UInt32) (k : IntKind) : Op.shift .shr .u32 (Y9 x) k 10 = pure (.int .u32 (Y9 (x >>> 10))) := Zx x k 10 (by decide)
@[go_sem ↓ high] theorem E7v (x : UInt32) (k : IntKind) : Op.shift .shl .u32 (Y9 x) k 10 = pure (.int .u32 (Y9 (x <<< 10))) := A2l x k 10 (by decide)
@[go_sem ↓ high] theorem E6w (x : UInt32) (k : IntKind) : Op.shift .shr .u32 (Y9 x) k 16 = pure (.int .u32 (Y9 (x >>> 16))) := Zx x k 16 (by decide)
@[go_sem ↓ high] theorem E5w (x : UInt32) (k : IntKind) : Op.shift .shl .u32 (Y9 x) k 16 = pure (.int .u32 (Y9 (x <<< 16))) := A2l x k 16 (by decide)
@[go_sem ↓ high] theorem F1h (x : UInt32) (k : IntKind) : Op.shift .shr .u32 (Y9 x) k 24 = pure (.int .u32 (Y9 (x >>> 24))) := Zx x k 24 (by decide)
@[go_sem ↓ high] theorem E5z (x : UInt32) (k : IntKind) : Op.shift .shl .u32 (Y9 x) k 24 = pure (.int .u32 (Y9 (x <<< 24))) := A2l x k 24 (by decide)
@[go_sem ↓ high] theorem F5a (x : UInt64) (k : IntKind) : Op.shift .shr .u64 (C8 x) k 0 = pure (.int .u64 (C8 (x >>> 0))) := V9 x k 0 (by decide)
@[go_sem ↓ high] theorem F3c (x : UInt64) (k : IntKind) : Op.shift .shl .u64 (C8 x) k 0 = pure (.int .u64 (C8 (x <<< 0))) := U4 x k 0 (by decide)
@[go_sem ↓ high] theorem F5l (x : UInt64) (k : IntKind) : Op.shift .shr .u64 (C8 x) k 3 = pure (.int .u64 (C8 (x >>> 3))) := V9 x k 3 (by decide)
@[go_sem ↓ high] theorem F5o (x : UInt64) (k : IntKind) : Op.shift .shl .u64 (C8 x) k 3 = pure (.int .u64 (C8 (x <<< 3))) := U4 x k 3 (by decide)
@[go_sem ↓ high] theorem F4n (x : UInt64) (k : IntKind) : Op.shift .shr .u64 (C8 x) k 6 = pure (.int .u64 (C8 (x >>> 6))) := V9 x k 6 (by decide)
@[go_sem ↓ high] theorem F2x (x : UInt64) (k : IntKind) : Op.shift .shl .u64 (C8 x) k 6 = pure (.int .u64 (C8 (x <<< 6))) := U4 x k 6 (by decide)
@[go_sem ↓ high] theorem F4e (x : UInt64) (k : IntKind) : Op.shift .shr .u64 (C8 x) k 7 = pure (.int .u64 (C8 (x >>> 7))) := V9 x k 7 (by decide)
@[go_sem ↓ high] theorem F3j (x : UInt64) (k : IntKind) : Op.shift .shl .u64 (C8 x) k 7 = pure (.int .u64 (C8 (x <<< 7))) := U4 x k 7 (by decide)
@[go_sem ↓ high] theorem F4a (x : UInt64) (k : IntKind) : Op.shift .shr .u64 (C8 x) k 8 = pure (.int .u64 (C8 (x >>> 8))) := V9 x k 8 (by decide)
@[go_sem ↓ high] theorem F5c (x : UInt64) (k : IntKind) : Op.shift .shl .u64 (C8 x) k 8 = pure (.int .u64 (C8 (x <<< 8))) := U4 x k 8 (by decide)
@[go_sem ↓ high] theorem E7m (x : UInt64) (k : IntKind) : Op.shift .shr .u64 (C8 x) k 10 = pure (.int .u64 (C8 (x >>> 10))) := V9 x k 10 (by decide)
@[go_sem ↓ high] theorem E6k (x : UInt64) (k : IntKind) : Op.shift .shl .u64 (C8 x) k 10 = pure (.int .u64 (C8 (x <<< 10))) := U4 x k 10 (by decide)
@[go_sem ↓ high] theorem E5u (x : UInt64) (k : IntKind) : Op.shift .shr .u64 (C8 x) k 16 = pure (.int .u64 (C8 (x >>> 16))) := V9 x k 16 (by decide)
@[go_sem ↓ high] theorem E8q (x : UInt64) (k : IntKind) : Op.shift .shl .u64 (C8 x) k 16 = pure (.int .u64 (C8 (x <<< 16))) := U4 x k 16 (by decide)
@[go_sem ↓ high] theorem F2i (x : UInt64) (k : IntKind) : Op.shift .shr .u64 (C8 x) k 24 = pure (.int .u64 (C8 (x >>> 24))) := V9 x k 24 (by decide)
@[go_sem ↓ high] theorem F2j (x : UInt64) (k : IntKind) : Op.shift .shl .u64 (C8 x) k 24 = pure (.int .u64 (C8 (x <<< 24))) := U4 x k 24 (by decide)
@[go_sem ↓ high] theorem F2s (x : UInt64) (k : IntKind) : Op.shift .shr .u64 (C8 x) k 32 = pure (.int .u64 (C8 (x >>> 32))) := V9 x k 32 (by decide)
@[go_sem ↓ high] theorem E8b (x : UInt64) (k : IntKind) : Op.shift .shl .u64 (C8 x) k 32 = pure (.int .u64 (C8 (x <<< 32))) := U4 x k 32 (by decide)
@[go_sem ↓ high] theorem E7c (x : UInt64) (k : IntKind) : Op.shift .shr .u64 (C8 x) k 40 = pure (.int .u64 (C8 (x >>> 40))) := V9 x k 40 (by decide)
@[go_sem ↓ high] theorem F2e (x : UInt64) (k : IntKind) : Op.shift .shl .u64 (C8 x) k 40 = pure (.int .u64 (C8 (x <<< 40))) := U4 x k 40 (by decide)
@[go_sem ↓ high] theorem E5e (x : UInt64) (k : IntKind) : Op.shift .shr .u64 (C8 x) k 48 = pure (.int .u64 (C8 (x >>> 48))) := V9 x k 48 (by decide)
@[go_sem ↓ high] theorem E9s (x : UInt64) (k : IntKind) : Op.shift .shl .u64 (C8 x) k 48 = pure (.int .u64 (C8 (x <<< 48))) := U4 x k 48 (by decide)
@[go_sem ↓ high] theorem F0e (x : UInt64) (k : IntKind) : Op.shift .shr .u64 (C8 x) k 56 = pure (.int .u64 (C8 (x >>> 56))) := V9 x k 56 (by decide)
@[go_sem ↓ high] theorem E9o (x : UInt64) (k : IntKind) : Op.shift .shl .u64 (C8 x) k 56 = pure (.int .u64 (C8 (x <<< 56))) := U4 x k 56 (by decide)
@[go_sem high] theorem F3a (x : UInt8) : IntKind.u8.wrap (n8 x) = n8 x := by
 unfold n8;rw[A0x];have:=lt8 x;omega
@[go_sem high] theorem E8a (x : UInt8) : IntKind.u32.wrap (n8 x) = Y9 x.toUInt32 := by
 unfold n8 Y9;rw[Tn];have:=lt8 x;simp<;>omega
@[go_sem high] theorem D0r (x : UInt8) : IntKind.u64.wrap (n8 x) = C8 x.toUInt64 := by
 unfold n8 C8;rw[Eb];have:=lt8 x;simp<;>omega
@[go_sem high] theorem E3s (x : UInt8) (hx : n8 x ≤ 9223372036854775807) : IntKind.i64.wrap (n8 x) = n8 x := IntWalk.i64_in _ (by have := E9f x; omega)
@[go_sem high] theorem F1i (x : UInt32) : IntKind.u8.wrap (Y9 x) = n8 x.toUInt8 := by
 unfold Y9 n8;rw[A0x];have:=Xs x;simp<;>omega
@[go_sem high] theorem E4h (x : UInt32) : IntKind.u32.wrap (Y9 x) = Y9 x := by
 unfold Y9;rw[Tn];have:=Xs x;omega
@[go_sem high] theorem E3e (x : UInt32) : IntKind.u64.wrap (Y9 x) = C8 x.toUInt64 := by
 unfold Y9 C8;rw[Eb];have:=Xs x;simp<;>omega
@[go_sem high] theorem E0n (x : UInt32) (hx : Y9 x ≤ 9223372036854775807) : IntKind.i64.wrap (Y9 x) = Y9 x := IntWalk.i64_in _ (by have := E0h x; omega)
@[go_sem high] theorem C8b (x : UInt64) : IntKind.u8.wrap (C8 x) = n8 x.toUInt8 := by
 unfold C8 n8;rw[A0x];have:=Hi x;simp<;>omega
@[go_sem high] theorem E4z (x : UInt64) : IntKind.u32.wrap (C8 x) = Y9 x.toUInt32 := by
 unfold C8 Y9;rw[Tn];have:=Hi x;simp<;>omega
@[go_sem high] theorem E4v (x : UInt64) : IntKind.u64.wrap (C8 x) = C8 x := by
 unfold C8;rw[Eb];have:=Hi x;omega
@[go_sem high] theorem D9x (x : UInt64) (hx : C8 x ≤ 9223372036854775807) : IntKind.i64.wrap (C8 x) = C8 x := IntWalk.i64_in _ (by have := E1u x; omega)
@[go_sem ↓ high] theorem F5f (x : UInt64) : Op.intArith .mul .u64 8 (C8 x) = pure (.int .u64 (C8 (8 * x))) := A5w 8 x
end Go.Proofs.YtdfpoofbgjilgaaGreat
namespace Go.Proofs.YtdfpoofbgjilgaaGreat
namespace Sh
def Y0:List UInt64:=[
 4794697086780616226,8158064640168781261,13096744586834688815,16840607885511220156,4131703408338449720,6480981068601479193,10538285296894168987,12329834152419229976,15566598209576043074,1334009975649890238,2608012711638119052,6128411473006802146,8268148722764581231,9286055187155687089,11230858885718282805,13951009754708518548,16472876342353939154,17275323862435702243,1135362057144423861,2597628984639134821,3308224258029322869,5365058923640841347,6679025012923562964,8573033837759648693,10970295158949994411,12119686244451234320,12683024718118986047,13788192230050041572,14330467153632333762,15395433587784984357,489312712824947311,1452737877330783856,2861767655752347644,3322285676063803686,5560940570517711597,5996557281743188959,7280758554555802590,8532644243296465576,9350256976987008742,10552545826968843579,11727347734174303076,12113106623233404929,14000437183269869457,14369950271660146224,15101387698204529176,15463397548674623760,17586052441742319658,1182934255886127544,1847814050463011016,2177327727835720531,2830643537854262169,3796741975233480872,4115178125766777443,5681478168544905931,6601373596472566643,7507060721942968483,8399075790359081724,8693463985226723168,9568029438360202098,10144078919501101548,10430055236837252648,11840083180663258601,13761210420658862357,14299343276471374635,14566680578165727644,15097957966210449927,16922976911328602910,17689382322260857208,500013540394364858,748580250866718886,1242879168328830382,1977374033974150939,2944078676154940804,3659926193048069267,4368137639120453308,4836135668995329356,5532061633213252278,6448918945643986474,6902733635092675308,7801388544844847127]
def Ae:List UInt64:=[
 7640891576956012808,13503953896175478587,4354685564936845355,11912009170470909681,5840696475078001361,11170449401992604703,2270897969802886507,6620516959819538809]
def g8 (l:List UInt8) (i:Nat):UInt8:=l.getD i 0
def Ca (l:List UInt32) (i:Nat):UInt32:=l.getD i 0
def E8 (l:List UInt64) (i:Nat):UInt64:=l.getD i 0
def Hk (x:UInt32) (k:Int):UInt32:=x <<< UInt32.ofNat (32+k).toNat ||| x >>> UInt32.ofNat (-k).toNat
def Hb (x:UInt64) (k:Int):UInt64:=x <<< UInt64.ofNat (64+k).toNat ||| x >>> UInt64.ofNat (-k).toNat
def J3 (n:UInt64):List UInt8:=[(n >>> 56).toUInt8,(n >>> 48).toUInt8,(n >>> 40).toUInt8,(n >>> 32).toUInt8,(n >>> 24).toUInt8,(n >>> 16).toUInt8,(n >>> 8).toUInt8,n.toUInt8]
def A4a (block n:Nat):Nat:=(block-(n+1+block / 8) % block) % block
def pad (block:Nat) (l:List UInt8):List UInt8:=
 l++[128]++List.replicate (A4a block l.length) 0++List.replicate (block / 8-8) 0++J3 (8*UInt64.ofNat l.length)
def A1d (b:List UInt8) (t:Nat):UInt32:=((g8 b (4*t)).toUInt32 <<< 24 ||| (g8 b (4*t+1)).toUInt32 <<< 16 ||| (g8 b (4*t+2)).toUInt32 <<< 8 ||| (g8 b (4*t+3)).toUInt32)
def A6y (y m x l:UInt32):UInt32:=(Hk y (-17) ^^^ Hk y (-19) ^^^ y >>> 10)+m+(Hk x (-7) ^^^ Hk x (-18) ^^^ x >>> 3)+l
def Yp (b:List UInt8):Nat→List UInt32
 | 0=>[]
 | t+1=>Yp b t++[if t<16 then A1d b t else
  A6y (Ca (Yp b t) (t-2)) (Ca (Yp b t) (t-7)) (Ca (Yp b t) (t-15)) (Ca (Yp b t) (t-16))]
def F1e (v:List UInt32) (k m:UInt32):UInt32:=
 let e:=Ca v 4
 Ca v 7+(Hk e (-6) ^^^ Hk e (-11) ^^^ Hk e (-25))+(e &&& Ca v 5 ^^^ ~~~e &&& Ca v 6)+k+m
def F5s (v:List UInt32):UInt32:=
 let a:=Ca v 0
 (Hk a (-2) ^^^ Hk a (-13) ^^^ Hk a (-22))+(a &&& Ca v 1 ^^^ a &&& Ca v 2 ^^^ Ca v 1 &&& Ca v 2)
def A7z (v:List UInt32) (k m:UInt32):List UInt32:=
 [F1e v k m+F5s v,Ca v 0,Ca v 1,Ca v 2,Ca v 3+F1e v k m,Ca v 4,Ca v 5,Ca v 6]
def K32 (t:Nat):UInt32:=((E8 Y0 t) >>> 32).toUInt32
def Ii (h W:List UInt32):Nat→List UInt32
 | 0=>h
 | t+1=>A7z (Ii h W t) (K32 t) (Ca W t)
def add32 (h v:List UInt32):List UInt32:=List.zipWith (· + ·) h v
def Xu (h:List UInt32) (b:List UInt8):List UInt32:=add32 h (Ii h (Yp b 64) 64)
def M9 (p:List UInt8):Nat→List UInt32
 | 0=>Ae.map fun (r:UInt64)=>(r >>> 32).toUInt32
 | i+1=>Xu (M9 p i) (p.drop (64*i))
def Ub (x:UInt32):List UInt8:=[(x >>> 24).toUInt8,(x >>> 16).toUInt8,(x >>> 8).toUInt8,x.toUInt8]
def Dj (h:List UInt32):List UInt8:=h.flatMap Ub
def Ih (l:List UInt8):List UInt8:=Dj (M9 (pad 64 l) ((pad 64 l).length / 64))
def A0i (b:List UInt8) (t:Nat):UInt64:=((b.drop (8*t)).take 8).foldl (fun m x=>m <<< 8 ||| x.toUInt64) 0
def A7o (y m x l:UInt64):UInt64:=(Hb y (-19) ^^^ Hb y (-61) ^^^ y >>> 6)+m+(Hb x (-1) ^^^ Hb x (-8) ^^^ x >>> 7)+l
def Yi (b:List UInt8):Nat→List UInt64
 | 0=>[]
 | t+1=>Yi b t++[if t<16 then A0i b t else
  A7o (E8 (Yi b t) (t-2)) (E8 (Yi b t) (t-7)) (E8 (Yi b t) (t-15)) (E8 (Yi b t) (t-16))]
def E8f (v:List UInt64) (k m:UInt64):UInt64:=
 let e:=E8 v 4
 E8 v 7+(Hb e (-14) ^^^ Hb e (-18) ^^^ Hb e (-41))+(e &&& E8 v 5 ^^^ ~~~e &&& E8 v 6)+k+m
def F6p (v:List UInt64):UInt64:=
 let a:=E8 v 0
 (Hb a (-28) ^^^ Hb a (-34) ^^^ Hb a (-39))+(a &&& E8 v 1 ^^^ a &&& E8 v 2 ^^^ E8 v 1 &&& E8 v 2)
def A8k (v:List UInt64) (k m:UInt64):List UInt64:=
 [E8f v k m+F6p v,E8 v 0,E8 v 1,E8 v 2,E8 v 3+E8f v k m,E8 v 4,E8 v 5,E8 v 6]
def K64 (t:Nat):UInt64:=E8 Y0 t
def Im (h W:List UInt64):Nat→List UInt64
 | 0=>h
 | t+1=>A8k (Im h W t) (K64 t) (E8 W t)
def add64 (h v:List UInt64):List UInt64:=List.zipWith (· + ·) h v
def Yc (h:List UInt64) (b:List UInt8):List UInt64:=add64 h (Im h (Yi b 80) 80)
def M1 (p:List UInt8):Nat→List UInt64
 | 0=>Ae
 | i+1=>Yc (M1 p i) (p.drop (128*i))
def Lm (x:UInt64):List UInt8:=J3 x
def Dy (h:List UInt64):List UInt8:=h.flatMap Lm
def Ww (l:List UInt8):List UInt8:=Dy (M1 (pad 128 l) ((pad 128 l).length / 128))
theorem B5r (b:List UInt8) (k:Nat):(Yp b k).length=k:=by
 induction k with
 | zero=>rfl
 | succ k ih=>simp[Yp,ih]
theorem B6p (b:List UInt8) (k:Nat):(Yi b k).length=k:=by
 induction k with
 | zero=>rfl
 | succ k ih=>simp[Yi,ih]
theorem Ng (h W:List UInt32) (hh:h.length=8) (k:Nat):(Ii h W k).length=8:=by
 cases k with
 | zero=>exact hh
 | succ k=>simp[Ii,A7z]
theorem Me (h W:List UInt64) (hh:h.length=8) (k:Nat):(Im h W k).length=8:=by
 cases k with
 | zero=>exact hh
 | succ k=>simp[Im,A8k]
theorem Gz (p:List UInt8) (i:Nat):(M9 p i).length=8:=by
 induction i with
 | zero=>simp[M9,Ae]
 | succ i ih=>simp[M9,Xu,add32,Ng _ _ ih,ih]
theorem Gu (p:List UInt8) (i:Nat):(M1 p i).length=8:=by
 induction i with
 | zero=>simp[M1,Ae]
 | succ i ih=>simp[M1,Yc,add64,Me _ _ ih,ih]
theorem Gi (h:List UInt32):(Dj h).length=4*h.length:=by
 unfold Dj;induction h with
 | nil=>rfl
 | cons x h ih=>simp[Ub]at ih ⊢;omega
theorem Gj (h:List UInt64):(Dy h).length=8*h.length:=by
 unfold Dy;induction h with
 | nil=>rfl
 | cons x h ih=>simp[Lm,J3]at ih ⊢;omega
theorem Cd (l:List UInt8):(Ih l).length=32:=by unfold Ih;rw[Gi,Gz]
theorem Tg (l:List UInt8):(Ww l).length=64:=by unfold Ww;rw[Gj,Gu]
theorem B8e (l:List UInt8):(pad 64 l).length % 64=0∧(pad 128 l).length % 128=0:=by
 simp[pad,A4a,J3];omega
end Sh
end Go.Proofs.YtdfpoofbgjilgaaGreat
namespace Go.Proofs.YtdfpoofbgjilgaaGreat
open Go Go.RowKit
def v8 (x:UInt8):Value:=.int .u8 (n8 x)
def v32 (x:UInt32):Value:=.int .u32 (Y9 x)
def Us (x:UInt64):Value:=.int .u64 (C8 x)
theorem Rv (a:Addr) (n:Nat):(a.add n).block=a.block:=by unfold Addr.add;split<;>rfl
theorem Q3 (g o n:Nat):(⟨g,o,none⟩:Addr).add n=⟨g,o+n,none⟩:=by unfold Addr.add;split<;>simp_all
def Bk (w:World) (g:Nat) (t:TypeId) (cs:List Value):Prop:=w.heap[g]?=some (.cells cs.toArray t (0,0))
section
variable {w w' : World} {g : Nat} {t : TypeId} {cs : List Value}
theorem Bk.lt (h:Bk w g t cs):g<w.heap.size:=by
 rcases Nat.lt_or_ge g w.heap.size with hlt | hge
 ·exact hlt
 ·unfold Bk at h;rw[Array.getElem?_eq_none hge]at h;cases h
theorem Bk.cell (h:Bk w g t cs) (i:Nat):w.cell? ⟨g,i,none⟩=cs[i]?:=by
 rw[cell_of_row w g i _ t (0,0) h];simp
theorem Bk.at_ (h:Bk w g t cs) {i:Nat} {u:Value} (hi:cs[i]?=some u):w.cell? ⟨g,i,none⟩=some u:=by rw[h.cell,hi]
theorem Bk.frozen (h:Bk w g t cs) (i:Nat):w.frozen? ⟨g,i,none⟩=false:=by
 unfold Bk at h;simp[World.frozen?,h]
theorem Bk.new (w:World) (t:TypeId) (cs:List Value):Bk (w.alloc (.cells cs.toArray t)) w.heap.size t cs:=heap_alloc_new w _
theorem Bk.drew (h:Bk w g t cs):Bk w.drew g t cs:=h
theorem Bk.drewN (h:Bk w g t cs) (n:Nat):Bk (w.drewN n) g t cs:=h
theorem Bk.alloc (h:Bk w g t cs) (o:Obj):Bk (w.alloc o) g t cs:=(Below.heap_alloc w o g h.lt).trans h
theorem Bk.set_ (h:Bk w g t cs) (i:Nat) (u:Value):Bk (w.setCell ⟨g,i,none⟩ u) g t (cs.set i u):=by
 unfold Bk at h ⊢;simp[World.setCell,Array.getElem?_modify,h]
theorem Bk.far (h:Bk w g t cs) {p:Addr} (hp:g≠p.block) (u:Value):Bk (w.setCell p u) g t cs:=(Below.heap_setCell w p u g hp).trans h
theorem Bk.below {B:Nat} (h:Bk w g t cs) (hb:Below B w w') (hg:g<B):Bk w' g t cs:=(hb.block g hg).trans h
theorem Bk.grown {row:Option Nat} (h:Bk w g t cs) (hb:w.grownBy w' row) (hg:some g≠row):Bk w' g t cs:=(hb.block g h.lt hg).trans h
end
theorem N6 {B:Nat} {a w:World} (h:Below B a w) (n:Nat):Below B a (w.drewN n):=⟨h.os,h.tape,h.output,h.size,h.block⟩
def Oz (lo hi:Nat) (w w':World):Prop:=∀k,lo≤k→k<hi→w'.heap[k]?=w.heap[k]?
section
variable {lo hi : Nat} {a w w' : World}
theorem Oz.refl (lo hi:Nat) (w:World):Oz lo hi w w:=fun _ _ _=>rfl
theorem Oz.below {B:Nat} (h:Below B w w') (hB:hi≤B):Oz lo hi w w':=fun k _ h2=>h.block k (by omega)
theorem Oz.drewN (h:Oz lo hi a w) (n:Nat):Oz lo hi a (w.drewN n):=h
theorem Oz.alloc (h:Oz lo hi a w) (hs:hi≤w.heap.size) (o:Obj):Oz lo hi a (w.alloc o):=fun k h1 h2=>(Below.heap_alloc w o k (by omega)).trans (h k h1 h2)
theorem Oz.setCell (h:Oz lo hi a w) {p:Addr} (hp:p.block<lo∨hi≤p.block) (u:Value):Oz lo hi a (w.setCell p u):=fun k h1 h2=>(Below.heap_setCell w p u k (by omega)).trans (h k h1 h2)
theorem Oz.cell (h:Oz lo hi w w') {p:Addr} (h1:lo≤p.block) (h2:p.block<hi):w'.cell? p=w.cell? p:=World.cell?_of_block (h _ h1 h2)
end
def Rd (w:World) (lo B:Nat) (A:Option Addr) (cs:List Value):Prop:=
 cs=[]∨∃g o,A=some ⟨g,o,none⟩∧lo≤g∧g<B∧∀j u,cs[j]?=some u→w.cell? ⟨g,o+j,none⟩=some u
section
variable {w w' : World} {lo lo' B B' : Nat} {A : Option Addr} {cs : List Value}
theorem Rd.keep (h:Rd w lo B A cs) (hk:∀p:Addr,lo≤p.block→p.block<B→w'.cell? p=w.cell? p):Rd w' lo B A cs:=by
 rcases h with h | ⟨g,o,e,hl,hb,hc⟩
 ·exact .inl h
 ·exact .inr ⟨g,o,e,hl,hb,fun j u hu=>(hk _ hl hb).trans (hc j u hu)⟩
theorem Rd.more (h:Rd w lo B A cs) (hB:B≤B'):Rd w lo B' A cs:=by
 rcases h with h | ⟨g,o,e,hl,hb,hc⟩
 ·exact .inl h
 ·exact .inr ⟨g,o,e,hl,by omega,hc⟩
theorem Rd.less (h:Rd w lo B A cs) (hl':lo'≤lo):Rd w lo' B A cs:=by
 rcases h with h | ⟨g,o,e,hl,hb,hc⟩
 ·exact .inl h
 ·exact .inr ⟨g,o,e,by omega,hb,hc⟩
theorem Rd.below (h:Rd w lo B A cs) (hb:Below B w w'):Rd w' lo B A cs:=h.keep fun _ _ hp=>hb.cell hp
theorem Rd.some (h:Rd w lo B A cs) (hn:0<cs.length):∃g o,A=some ⟨g,o,none⟩∧lo≤g∧g<B∧∀j u,cs[j]?=some u→w.cell? ⟨g,o+j,none⟩=some u:=by
 rcases h with h | h
 ·rw[h]at hn;cases hn
 ·exact h
theorem Rd.cut (h:Rd w lo B A cs) {k cap:Nat} (hc:cs.length≤cap) :
 Rd w lo B (if cap=k then A else A.map (·.add k)) (cs.drop k):=by
 rcases Nat.lt_or_ge k cs.length with hlt | hge
 ·obtain⟨g,o,rfl,hl,hb,aA⟩:=h.some (by omega);rw[if_neg (by omega)];refine .inr ⟨g,o+k,by simp[Q3],hl,hb,fun j u hu=>?_⟩;rw[List.getElem?_drop]at hu;rw[Nat.add_assoc];exact aA _ u hu
 ·exact .inl (List.drop_eq_nil_of_le hge)
theorem Rd.take (h:Rd w lo B A cs) (k:Nat):Rd w lo B A (cs.take k):=by
 rcases h with h | ⟨g,o,e,hl,hb,hc⟩
 ·subst h;exact .inl (by simp)
 ·refine .inr ⟨g,o,e,hl,hb,fun j u hu=>hc j u ?_⟩;rw[List.getElem?_take]at hu;split at hu
  ·exact hu
  ·cases hu
theorem Rd.of_own {base:Nat} {e:TypeId} {n c:Nat} (h:w.ownsRow base e 1 (.slice A n c) n cs):Rd w base w.heap.size A cs:=by
 rcases h.2 with ⟨hv,hn⟩ | ⟨g,cap,cur,hv,hbg,hh,_⟩
 ·exact .inl (List.eq_nil_of_length_eq_zero (by rw[h.1,hn,Nat.zero_mul]))
 ·have hA:A=Option.some ⟨g,0,none⟩:=by injection hv
  subst hA;refine .inr ⟨g,0,rfl,hbg,(Array.getElem?_eq_some_iff.1 hh).1,fun j u hu=>?_⟩;have:=h.cells (g:=g) rfl j u hu;rwa [Q3]at this
end
def Sl (w:World) (lo B:Nat) (v:Value) (cs:List Value):Prop:=∃A c,v=.slice A cs.length c∧cs.length≤c∧c≤maxLen∧Rd w lo B A cs
def By (w:World) (lo B:Nat) (v:Value) (l:List UInt8):Prop:=Sl w lo B v (l.map v8)
section
variable {w w' : World} {lo lo' B B' : Nat} {v : Value} {cs : List Value} {l : List UInt8}
theorem Sl.below (h:Sl w lo B v cs) (hb:Below B w w'):Sl w' lo B v cs:=let ⟨A,c,h1,h2,h3,h4⟩:=h;⟨A,c,h1,h2,h3,h4.below hb⟩
theorem Sl.more (h:Sl w lo B v cs) (hB:B≤B'):Sl w lo B' v cs:=let ⟨A,c,h1,h2,h3,h4⟩:=h;⟨A,c,h1,h2,h3,h4.more hB⟩
theorem Sl.less (h:Sl w lo B v cs) (hl:lo'≤lo):Sl w lo' B v cs:=let ⟨A,c,h1,h2,h3,h4⟩:=h;⟨A,c,h1,h2,h3,h4.less hl⟩
theorem Sl.of_own {base:Nat} {e:TypeId} {n:Nat} (h:w.ownsRow base e 1 v n cs):Sl w base w.heap.size v cs:=by
 have hl:cs.length=n:=by rw[h.1,Nat.mul_one]
 rcases h.2 with ⟨rfl,hn⟩ | ⟨g,cap,cur,rfl,hr⟩
 ·subst hn;have:cs=[]:=List.eq_nil_of_length_eq_zero hl;subst this;exact ⟨none,0,rfl,Nat.le_refl _,by simp[maxLen],.inl rfl⟩
 ·exact ⟨_,cap,by rw[hl],by rw[hl];exact hr.2.2.1,hr.2.2.2.1,Rd.of_own h⟩
theorem By.below (h:By w lo B v l) (hb:Below B w w'):By w' lo B v l:=Sl.below h hb
theorem By.more (h:By w lo B v l) (hB:B≤B'):By w lo B' v l:=Sl.more h hB
theorem By.less (h:By w lo B v l) (hl:lo'≤lo):By w lo' B v l:=Sl.less h hl
theorem By.open_ (h:By w lo B v l):∃A c,v=.slice A l.length c∧l.length≤c∧c≤9223372036854775807∧Rd w lo B A (l.map v8):=by
 obtain⟨A,c,h1,h2,h3,h4⟩:=h;rw[List.length_map]at h1 h2;exact ⟨A,c,h1,h2,by unfold maxLen at h3;exact h3,h4⟩
theorem By.mk_ {A:Option Addr} {c:Nat} (h2:l.length≤c) (h3:c≤maxLen) (h4:Rd w lo B A (l.map v8)):By w lo B (.slice A l.length c) l:=
 ⟨A,c,by rw[List.length_map],by rwa [List.length_map],h3,h4⟩
end
theorem B3i {w:World} {g o:Nat} {l:List UInt8} (h:∀j u,(l.map v8)[j]?=some u→w.cell? ⟨g,o+j,none⟩=some u) {k:Nat} (hk:k<l.length) :
 w.cell? ⟨g,o+k,none⟩=some (.int .u8 (n8 (Sh.g8 l k))):=by
 refine h k _ ?_;rw[List.getElem?_map,List.getElem?_eq_getElem hk];simp[v8,hk,Sh.g8]
end Go.Proofs.YtdfpoofbgjilgaaGreat
namespace Go.Proofs.YtdfpoofbgjilgaaGreat
open Go Go.RowKit
section
variable {P : Program} (w : World)
theorem Ew (z:Value) (n:Nat) (hz:z.cells=#[z]):Builtin.zeroCells z.cells n=(List.replicate n z).toArray:=by
 apply Array.ext';rw[hz];apply List.ext_getElem?;intro j;simp only[Builtin.zeroCells,Array.toList_map,Array.toList_range];rw[List.getElem?_map];by_cases h:j<n
 ·simp[h,Nat.mod_one]
 ·simp[h]
theorem Vw (base:Nat) (t tn ty e:TypeId) (i:TypeInfo) (z:Value) (bytes:Nat) (ht:P.underlying t=some (.slice e)) (k:IntKind) (htn:P.underlying tn=some (.int k))
 (hi:P.info? e=some i) (hz:i.zero=some z) (hsize:i.size=1) (hby:i.bytes=bytes) (hzs:z.cells=#[z]) (h1:z.oneCell'=true)
 (v:Value) (n:Nat) (xs:List Value) (hown:w.ownsRow base e 1 v n xs) (k':IntKind) (m:Nat)
 (h63:n+m≤maxLen) (hbytes:(n+m)*bytes≤140737488355328) (hbase:base≤w.heap.size) :
 ∃v' w',(Builtin.append_ #[t,tn] ty #[v,.int k' m]).run P w=.ok v' w'∧w'.ownsRow base e 1 v' (n+m) (xs++List.replicate m z)∧w.grownBy w' v.ownBlock∧
  (v'.ownBlock=v.ownBlock∨v'.ownBlock=some w.heap.size):=by
 subst hby;have aA:(xs++List.replicate m z).length=(n+m)*1:=by rw[List.length_append,hown.1];simp
 have aM:m≤9223372036854775807:=by simp only[maxLen]at h63;omega
 have aH:IntKind.i64.wrap (m:Int)=(m:Int):=IntWalk.i64_in _ (by omega);have aD:¬ ((m:Int)<0):=by omega
 have aQ:m*i.bytes≤140737488355328:=Nat.le_trans (Nat.mul_le_mul_right _ (by omega)) hbytes;have aI:¬ (281474976710656<(m:Int)*(i.bytes:Int)):=by
  have:((m*i.bytes:Nat):Int)≤140737488355328:=by omega
  rw[Int.natCast_mul]at this;omega
 have aC:∀(old:Nat),old<n+m→∀(aL:Option Nat),
  (w.drew.alloc (.cells (xs.toArray++(List.replicate m z).toArray++Builtin.zeroCells z.cells (grownCap w (n+m) old e-(n+m))) e)).ownsRow base e 1
   (.slice (some ⟨w.heap.size,0,none⟩) (n+m) (grownCap w (n+m) old e)) (n+m) (xs++List.replicate m z)∧
  w.grownBy (w.drew.alloc (.cells (xs.toArray++(List.replicate m z).toArray++Builtin.zeroCells z.cells (grownCap w (n+m) old e-(n+m))) e)) aL:=by
  intro old ho aL;have aN:=grownCap_ge w (n+m) old e;have aJ:grownCap w (n+m) old e≤maxLen:=grownCap_le_maxLen w (n+m) old e h63;refine ⟨⟨aA,.inr ⟨w.heap.size,_,_,rfl,hbase,heap_alloc_new w.drew _,aN,aJ,?_,?_⟩⟩,⟨rfl,rfl,rfl,by simp,fun k hk _=>Below.heap_alloc w.drew _ k hk⟩⟩
  ·have hx:xs.length=n:=by rw[hown.1,Nat.mul_one]
   rw[Ew z _ hzs];simp[hx];omega
  ·simp only[Array.toList_append,List.append_assoc];rw[←List.append_assoc,←aA];exact List.take_left
 rcases hown.2 with ⟨rfl,rfl⟩ | ⟨g,cap,cur,rfl,hbg,hg,hnc,aJ,hcs,htake⟩
 ·have hx:xs=[]:=List.eq_nil_of_length_eq_zero (by simpa using hown.1);subst hx;by_cases hm:m=0
  ·subst hm;refine ⟨.slice none 0 0,w,?_,World.ownsRow_nil w base e 1,⟨rfl,rfl,rfl,Nat.le_refl _,fun _ _ _=>rfl⟩,.inl rfl⟩;simp[Builtin.append_,run_underlying ht,run_underlying htn,sizeOf,typeInfo,hi,asInt,asIntOf,IntWalk.i64_in 0 (by omega)]
  ·have aF:=aC 0 (by omega) (Value.ownBlock (.slice none 0 0));refine ⟨_,_,?_,aF.1,aF.2,.inr rfl⟩;have aO:¬ (0+m≤0):=by omega
   have aB:¬ (281474976710656<Builtin.nextslicecap (0+m) 0*i.bytes):=by have:=growslice_fits (need:=0+m) (old:=0) (bytes:=i.bytes) (by omega) hbytes;omega
   simp only[Nat.zero_add]at aO aB;have aE:¬ (9223372036854775807<(m:Int)):=by omega
   simp[Builtin.append_,run_underlying ht,run_underlying htn,sizeOf,typeInfo,zeroValue,hi,hz,asInt,asIntOf,aH,aD,aI,hm,aE,aB,Question.forced,run_firstCells_none,newRow,grownCap,hsize,Ew z _ hzs]
 ·by_cases hroom:n+m≤cap
  ·by_cases hm:m=0
   ·subst hm;refine ⟨.slice (some ⟨g,0,none⟩) n cap,w,?_,by simpa using hown,World.grownBy.refl w _,.inl rfl⟩;simp[Builtin.append_,run_underlying ht,run_underlying htn,sizeOf,typeInfo,hi,asInt,asIntOf,IntWalk.i64_in 0 (by omega),hnc,storeCells]
   ·have aK:=run_storeCells_at P g (n*1) e (List.replicate m z) 0 cur w hg (by simp[hcs];omega) (fun u hu=>by rw[List.eq_of_mem_replicate hu];exact h1);simp only[Nat.add_zero]at aK;refine ⟨.slice (some ⟨g,0,none⟩) (n+m) cap,w.setRow g (cur.toList.take (n*1)++List.replicate m z++cur.toList.drop (n*1+(List.replicate m z).length)).toArray,?_,⟨aA,.inr ⟨g,cap,_,rfl,hbg,setRow_heap w g cur _ e _ hg,hroom,aJ,?_,?_⟩⟩,
     ⟨rfl,rfl,rfl,by simp,fun k _ hk=>setRow_other w g k _ (fun e=>hk (by simp[Value.ownBlock,e]))⟩,.inl rfl⟩
    ·simp only[Nat.mul_one]at aK;simp[Builtin.append_,run_underlying ht,run_underlying htn,sizeOf,typeInfo,zeroValue,hi,hz,asInt,asIntOf,aH,aD,aI,hm,hroom,hsize,Ew z _ hzs,Addr.add_lit,aK]
    ·simp only[List.size_toArray,List.length_append,List.length_take,List.length_drop,Array.length_toList];simp;omega
    ·rw[htake,←aA];exact List.take_left
  ·have aG:∀j u,xs[j]?=some u→w.cell? ((⟨g,0,none⟩:Addr).add j)=some u:=hown.cells (g:=g) rfl;have aF:=aC cap (by omega) (Value.ownBlock (.slice (some ⟨g,0,none⟩) n cap));refine ⟨_,_,?_,aF.1,aF.2,.inr rfl⟩;have hm:m≠0:=by omega
   have aB:¬ (281474976710656<Builtin.nextslicecap (n+m) cap*i.bytes):=by have:=growslice_fits (need:=n+m) (old:=cap) (bytes:=i.bytes) (by omega) hbytes;omega
   have aE:¬ (9223372036854775807<(n:Int)+(m:Int)):=by simp only[maxLen]at h63;omega
   have aP:=run_firstCells_some (P:=P) w.drew 1 n ⟨g,0,none⟩ n cap xs (by rw[hown.1]) (by simpa using aG);simp[Builtin.append_,run_underlying ht,run_underlying htn,sizeOf,typeInfo,zeroValue,hi,hz,asInt,asIntOf,aH,aD,aI,hm,hroom,aE,aB,aP,Question.forced,newRow,grownCap,hsize,Ew z _ hzs]
theorem Ls (base t ty e:Nat) (i:TypeInfo) (size:Nat) (ht:P.underlying t=some (.slice e)) (hi:P.info? e=some i) (v:Value) (n:Nat) (xs:List Value) (hown:w.ownsRow base e size v n xs) (c:Nat) :
 (Builtin.append_ #[t,t] ty #[v,.slice none 0 c]).run P w=.ok v w:=by
 rcases hown.2 with ⟨rfl,rfl⟩ | ⟨g,cap,cur,rfl,_,_,hnc,_⟩
 ·simp[Builtin.append_,run_underlying ht,sizeOf,typeInfo,hi,Builtin.lenOf,Builtin.firstCells]
 ·simp[Builtin.append_,run_underlying ht,sizeOf,typeInfo,hi,Builtin.lenOf,Builtin.firstCells,hnc,storeCells]
end
end Go.Proofs.YtdfpoofbgjilgaaGreat
namespace Go.Proofs.YtdfpoofbgjilgaaGreat
open Go Go.RowKit
def D9 (w:World) (a:Addr) (n:Nat):Option (List Value):=(List.range n).mapM fun j=>w.cell? (a.add j)
def E7 (w:World) (a:Addr) (n:Nat):Bool:=(List.range n).all fun j=>(w.cell? (a.add j)).isSome && !w.frozen? (a.add j)
def C4 (w:World) (a:Addr) (cs:List Value):World:=w.setCells a.block a.off cs
theorem Qu {α:Type} (f:Nat→Option α):∀(n:Nat) (cs:List α),((List.range n).mapM f=some cs↔cs.length=n∧∀j (u:α),cs[j]?=some u→f j=some u):=by
 intro n;induction n with
 | zero=>
  intro cs;constructor
  ·intro h;simp at h;subst h;simp
  ·rintro ⟨h,-⟩;have:=List.eq_nil_of_length_eq_zero h;subst this;simp
 | succ n ih=>
  intro cs;rw[List.range_succ,List.mapM_append];constructor
  ·intro h;simp only[Option.bind_eq_bind,Option.bind_eq_some_iff,List.mapM_cons,List.mapM_nil]at h;obtain⟨xs,hx,ys,⟨y,hy,z,hz,aA⟩,he⟩:=h;obtain⟨h1,h2⟩:=(ih xs).1 hx;simp only[pure,Option.some.injEq]at hz aA he;subst hz;subst aA;subst he;refine ⟨by simp[h1],fun j u hj=>?_⟩;rcases Nat.lt_or_ge j n with hlt | hge
   ·exact h2 j u (by rwa [List.getElem?_append_left (by omega)]at hj)
   ·rw[List.getElem?_append_right (by omega)]at hj;by_cases e:j=n
    ·subst e;simp[h1]at hj;subst hj;exact hy
    ·rw[List.getElem?_eq_none (by simp;omega)]at hj;cases hj
  ·rintro ⟨h1,h2⟩;have hn:n<cs.length:=by omega
   have hx:(List.range n).mapM f=some (cs.take n):=(ih _).2 ⟨by simp;omega,fun j u hj=>by
    rw[List.getElem?_take]at hj;split at hj
    ·exact h2 j u hj
    ·cases hj⟩
   simp only[Option.bind_eq_bind,Option.bind_eq_some_iff,List.mapM_cons,List.mapM_nil,pure,Option.some.injEq];refine ⟨_,hx,[cs[n]],⟨cs[n],h2 n _ (List.getElem?_eq_getElem hn),[],rfl,rfl⟩,?_⟩;rw[List.take_append_getElem];exact List.take_of_length_le (by omega)
theorem Z0 {w:World} {g o n:Nat} {cs:List Value}:D9 w ⟨g,o,none⟩ n=some cs↔cs.length=n∧w.rangeAt g o cs:=by
 unfold D9 World.rangeAt;rw[Qu];simp only[Q3]
theorem Jp {w:World} {g o n:Nat}:E7 w ⟨g,o,none⟩ n=true↔w.there g o n:=by
 unfold E7 World.there;simp only[List.all_eq_true,List.mem_range,Q3,Bool.and_eq_true,Bool.not_eq_true']
section
variable {w w' : World} {a : Addr} {n : Nat}
theorem Le (h:∀p:Addr,p.block=a.block→w'.cell? p=w.cell? p):D9 w' a n=D9 w a n:=by
 unfold D9;congr 1;funext j;exact h _ (Rv _ _)
theorem A0u (h:∀p:Addr,p.block=a.block→w'.cell? p=w.cell? p) (hf:∀p:Addr,p.block=a.block→w'.frozen? p=w.frozen? p):E7 w' a n=E7 w a n:=by
 unfold E7;congr 1;funext j;rw[h _ (Rv _ _),hf _ (Rv _ _)]
@[go_sem] theorem E2e : D9 w.drew a n = D9 w a n := rfl
@[go_sem] theorem D8v (k : Nat) : D9 (w.drewN k) a n = D9 w a n := rfl
@[go_sem] theorem E2d : E7 w.drew a n = E7 w a n := rfl
@[go_sem] theorem D7y (k : Nat) : E7 (w.drewN k) a n = E7 w a n := rfl
@[go_sem] theorem D7z (o : Obj) (h : a.block < w.heap.size) : D9 (w.alloc o) a n = D9 w a n :=
 Le fun p hp=>World.cell?_alloc_lt w o p (by omega)
@[go_sem] theorem D7h (o : Obj) (h : a.block < w.heap.size) : E7 (w.alloc o) a n = E7 w a n :=
 A0u (fun p hp=>World.cell?_of_block (Below.heap_alloc w o _ (by omega))) (fun p hp=>World.frozen?_of_block (Below.heap_alloc w o _ (by omega)))
theorem Bv {B:Nat} (hb:Below B w w') (h:a.block<B):D9 w' a n=D9 w a n:=Le fun p hp=>hb.cell (by omega)
theorem C4o {p:Addr} (u:Value) (h:a.block≠p.block):D9 (w.setCell p u) a n=D9 w a n:=
 Le fun q hq=>World.cell?_of_block (Below.heap_setCell w p u _ (by omega))
end
theorem T7 (g:Nat):∀(vs:List Value) (o:Nat) (w:World) (k:Nat),k≠g→(w.setCells g o vs).heap[k]?=w.heap[k]?
 | [],_,_,_,_=>rfl
 | v::r,o,w,k,h=>(T7 g r (o+1) _ k h).trans (Below.heap_setCell w ⟨g,o,none⟩ v k h)
theorem Qd (g:Nat):∀(vs:List Value) (o:Nat) (w:World),(w.setCells g o vs).heap.size=w.heap.size
 | [],_,_=>rfl
 | v::r,o,w=>(Qd g r (o+1) _).trans (by simp[World.setCell])
theorem Nk {B g:Nat} {a:World} (hg:B≤g):∀(vs:List Value) (o:Nat) {w:World},Below B a w→Below B a (w.setCells g o vs)
 | [],_,_,h=>h
 | v::r,o,_,h=>Nk hg r (o+1) (h.setCell (p:=⟨g,o,none⟩) hg v)
@[simp, go_sem] theorem A1z (w : World) (a : Addr) (cs : List Value) : (C4 w a cs).heap.size = w.heap.size := Qd _ _ _ _
theorem C0 {B:Nat} {v w:World} (h:Below B v w) {a:Addr} (ha:B≤a.block) (cs:List Value):Below B v (C4 w a cs):=Nk ha _ _ h
section
variable {w : World} {g : Nat} {t : TypeId} {cs : List Value}
theorem Bk.row (h:Bk w g t cs) {o n:Nat} (hn:o+n≤cs.length):D9 w ⟨g,o,none⟩ n=some ((cs.drop o).take n):=
 Z0.2 ⟨by simp;omega,fun j u hj=>by
  rw[List.getElem?_take]at hj;split at hj
  ·rw[List.getElem?_drop]at hj;exact h.at_ hj
  ·cases hj⟩
theorem Bk.rows (h:Bk w g t cs):D9 w ⟨g,0,none⟩ cs.length=some cs:=by
 rw[h.row (by omega)];simp
theorem Bk.can (h:Bk w g t cs) {o n:Nat} (hn:o+n≤cs.length):E7 w ⟨g,o,none⟩ n=true:=
 Jp.2 fun j hj=>⟨by rw[h.cell,List.getElem?_eq_getElem (by omega)];rfl,h.frozen _⟩
theorem Bk.setCells:∀(vs:List Value) (o:Nat) {w:World} {cs:List Value},Bk w g t cs→o+vs.length≤cs.length→Bk (w.setCells g o vs) g t (cs.take o++vs++cs.drop (o+vs.length))
 | [],o,w,cs,h,_=>by simpa [World.setCells] using h
 | v::r,o,w,cs,h,hl=>by
  have hl':o+(r.length+1)≤cs.length:=by simpa using hl
  have h1:=Bk.setCells r (o+1) (h.set_ o v) (by simp;omega);have e:(cs.set o v).take (o+1)++r++(cs.set o v).drop (o+1+r.length)=cs.take o++v::r++cs.drop (o+(v::r).length):=by
   rw[List.drop_set_of_lt (by omega)];have:(cs.set o v).take (o+1)=cs.take o++[v]:=by
    rw[List.take_add_one,List.take_set_of_le (by omega)];simp[show o<cs.length by omega]
   rw[this];simp[Nat.add_assoc,Nat.add_comm 1]
  rw[e]at h1;exact h1
theorem Bk.put (h:Bk w g t cs) {o:Nat} {vs:List Value} (hl:o+vs.length≤cs.length):Bk (C4 w ⟨g,o,none⟩ vs) g t (cs.take o++vs++cs.drop (o+vs.length)):=Bk.setCells vs o h hl
theorem Bk.puts (h:Bk w g t cs) {vs:List Value} (hl:vs.length=cs.length):Bk (C4 w ⟨g,0,none⟩ vs) g t vs:=by
 have:=h.put (o:=0) (vs:=vs) (by omega);simpa [hl] using this
theorem Bk.putFar (h:Bk w g t cs) {p:Addr} (hp:g≠p.block) (vs:List Value):Bk (C4 w p vs) g t cs:=(T7 _ _ _ _ _ hp).trans h
end
theorem Oz.putAt {lo hi:Nat} {a w:World} (h:Oz lo hi a w) {p:Addr} (hp:p.block<lo∨hi≤p.block) (vs:List Value):Oz lo hi a (C4 w p vs):=fun k h1 h2=>(T7 _ _ _ _ _ (by omega)).trans (h k h1 h2)
section
variable (k : IntKind) (n : Int) (b : Bool) (s : ByteArray) (p : Option Addr) (l c : Nat) (t : TypeId) (v : Value) (r : Option Nat)
@[go_sem] theorem F3z : (Value.int k n).oneCell' = true := rfl
@[go_sem] theorem F2l : (Value.bool b).oneCell' = true := rfl
@[go_sem] theorem E0o : (Value.string s).oneCell' = true := rfl
@[go_sem] theorem D8x : (Value.pointer p).oneCell' = true := rfl
@[go_sem] theorem E5a : (Value.slice p l c).oneCell' = true := rfl
@[go_sem] theorem F3u : (Value.map r).oneCell' = true := rfl
@[go_sem] theorem E4n : (Value.iface t v).oneCell' = true := rfl
@[go_sem] theorem D6o : Value.nilIface.oneCell' = true := rfl
end
def F2 (P:Program) (ρ:Operand→Value) (o:Oper) (w:World):Result Next:=(execOp ρ o).run P w
def Iy (n:Nat) (w:World) (raw:Result Next):Value→Result Next
 | .pointer (some a)=>(D9 w a n).elim raw (fun cs=>.ok (.value (.agg cs.toArray)) w)
 | _=>raw
@[go_sem] theorem E4p (n : Nat) (w : World) (raw : Result Next) (a : Addr) : Iy n w raw (.pointer (some a)) = (D9 w a n).elim raw (fun cs => .ok (.value (.agg cs.toArray)) w) := rfl
def Y6 (n:Nat) (w:World) (raw:Result Next):Value→Value→Result Next
 | .pointer (some a),.agg cs=>if cs.size=n∧cs.all (·.oneCell')=true∧E7 w a n=true then .ok .skip (C4 w a cs.toList) else raw
 | _,_=>raw
@[go_sem] theorem A1i (n : Nat) (w : World) (raw : Result Next) (a : Addr) (cs : Array Value) : Y6 n w raw (.pointer (some a)) (.agg cs) =
 if cs.size=n∧cs.all (·.oneCell')=true∧E7 w a n=true then .ok .skip (C4 w a cs.toList) else raw:=rfl
section
variable {P : Program} (w : World) (ρ : Operand → Value) (dst : Option Tmp) (ty : TypeId) (pos : String) (after : Array Edge) (guard : Option (Nat × Bool))
theorem C1v {w:World} {a:Addr} {n:Nat} {cs:List Value} (hn:0<n) (h:D9 w a n=some cs):a.spot=none:=by
 have h1:=((Qu (fun j=>w.cell? (a.add j)) n cs).1 h);have hc:cs[0]?=some cs[0]:=List.getElem?_eq_getElem (by omega);have:=h1.2 0 _ hc;have h2:w.cell? a=some cs[0]:=by simpa [Addr.add] using this
 exact World.cell?_spot h2
theorem Eu (t n:TypeId) (d:TypeDesc) (x:Operand) (hn:0<n) (hu:P.underlying t=some d) (hd:d.isRow=true) (hi:(P.info? t).map (·.size)=some n) :
 (execOp ρ { dst,op:=.load t x,type:=ty,pos,after,guard }).run P w=Iy n w (F2 P ρ { dst,op:=.load t x,type:=ty,pos,after,guard } w) (ρ x):=by
 generalize hv:ρ x=v;unfold Iy;split
 ·rename_i a
  cases hr:D9 w a n with
  | none=>rfl
  | some cs=>
   have hs:=C1v hn hr;obtain⟨g,o,s⟩:=a;simp only at hs;subst hs;obtain⟨hl,hc⟩:=Z0.1 hr;have h1:=run_loadAt_mid (P:=P) w g o t cs d hc hu hd (by rw[hi,hl]);unfold execOp;simp only[hv,Sem.run_bind,h1,Result.andThen_ok,Option.elim_some];rfl
 ·rfl
theorem Dd (t n:TypeId) (x y:Operand) (hn:0<n) (hi:(P.info? t).map (·.size)=some n) :
 (execOp ρ { dst,op:=.store t x y,type:=ty,pos,after,guard }).run P w=Y6 n w (F2 P ρ { dst,op:=.store t x y,type:=ty,pos,after,guard } w) (ρ x) (ρ y):=by
 generalize hv:ρ x=v;generalize hz:ρ y=z;unfold Y6;split
 ·rename_i a cs
  by_cases hc:cs.size=n∧cs.all (·.oneCell')=true∧E7 w a n=true
  ·rw[if_pos hc];obtain⟨h1,h2,h3⟩:=hc;have hs:a.spot=none:=by
    have h4:(w.cell? (a.add 0)).isSome=true:=by unfold E7 at h3;have:=List.all_eq_true.1 h3 0 (List.mem_range.2 hn);simp only[Bool.and_eq_true]at this;exact this.1
    cases h5:w.cell? (a.add 0) with
    | none=>rw[h5]at h4;cases h4
    | some u=>exact World.cell?_spot (by simpa [Addr.add] using h5)
   obtain⟨g,o,s⟩:=a;simp only at hs;subst hs;have h6:=run_storeAt_mid (P:=P) w g o t cs (by rw[h1];exact Jp.1 h3) (by rw[hi,h1]) h2;unfold execOp;simp only[hv,hz,Sem.run_bind,h6,Result.andThen_ok];rfl
  ·rw[if_neg hc];rfl
 ·rfl
theorem I7 (t:TypeId) (z:Value) (hi:((P.info? t).bind (·.zero))=some z) :
 (execOp ρ { dst,op:=.alloc t,type:=ty,pos,after,guard }).run P w=.ok (.value (.pointer (some ⟨w.heap.size,0,none⟩))) (w.alloc (.cells z.cells t)):=by
 cases hq:P.info? t with
 | none=>simp[hq]at hi
 | some i=>
  have hz:i.zero=some z:=by simpa [hq] using hi
  simp[execOp,Instr.alloc,zeroValue,typeInfo,hq,hz,newVar,newRow]
end
end Go.Proofs.YtdfpoofbgjilgaaGreat
namespace Go.Proofs.YtdfpoofbgjilgaaGreat
open Go Go.RowKit
def c8 (l:List UInt8):List Value:=l.map v8
def A8 (l:List UInt8):Value:=.agg (c8 l).toArray
def z8 (k:Nat):List UInt8:=List.replicate k 0
@[simp, go_sem] theorem I1 (k : Nat) : (z8 k).length = k := by simp [z8]
@[simp, go_sem] theorem C6 (l : List UInt8) : (c8 l).length = l.length := by simp [c8]
theorem Jo {l:List UInt8} {i:Nat} (h:i<l.length):(c8 l)[i]?=some (.int .u8 (n8 (Sh.g8 l i))):=by
 unfold c8;rw[List.getElem?_map,List.getElem?_eq_getElem h];simp[h,v8,Sh.g8]
theorem Kj (l:List UInt8) (i:Nat) (x:UInt8):(c8 l).set i (.int .u8 (n8 x))=c8 (l.set i x):=by
 show (l.map v8).set i (v8 x)=(l.set i x).map v8;rw[List.map_set]
@[go_sem] theorem F4t (l : List UInt8) : Value.agg (c8 l).toArray = A8 l := rfl
theorem C9z (l:List UInt8):(c8 l).toArray.all (·.oneCell')=true:=by simp[c8,v8,Value.oneCell']
@[go_sem] theorem D9k (n : Nat) (w : World) (raw : Result Next) (a : Addr) (l : List UInt8) : Y6 n w raw (.pointer (some a)) (A8 l) =
 if l.length=n∧E7 w a n=true then .ok .skip (C4 w a (c8 l)) else raw:=by
 have e:Y6 n w raw (.pointer (some a)) (A8 l)=if (c8 l).toArray.size=n∧(c8 l).toArray.all (·.oneCell')=true∧E7 w a n=true then .ok .skip (C4 w a (c8 l).toArray.toList) else raw:=rfl;rw[e,C9z];simp only[List.size_toArray,C6,true_and]
def D3l (n:Nat) (w:World) (raw:Result Next):Value→Value→Result Next
 | .agg cs,.int _ i=>if 0≤i∧i<n∧cs.size=n∧(cs[i.toNat]?).isSome then .ok (.value (cs[i.toNat]?.getD undef)) w else raw
 | _,_=>raw
theorem Wz {P:Program} (w:World) (ρ:Operand→Value) (dst:Option Tmp) (ty:TypeId) (pos:String) (after:Array Edge) (guard:Option (Nat×Bool))
 (t e n:TypeId) (x ix:Operand) (hu:P.underlying t=some (.array n e)) (ha:(match P.underlying e with | some (.int _)=>true | _=>false)=true) (hi:(P.info? e).map (·.size)=some 1) :
 (execOp ρ { dst,op:=.index t x ix,type:=ty,pos,after,guard }).run P w=D3l n w (F2 P ρ { dst,op:=.index t x ix,type:=ty,pos,after,guard } w) (ρ x) (ρ ix):=by
 generalize hv:ρ x=v;generalize hz:ρ ix=z;unfold D3l;split
 ·rename_i cs kk i
  split
  ·rename_i hc
   obtain⟨h1,h2,h3,h4⟩:=hc;cases hp:P.underlying e with
   | none=>simp[hp]at ha
   | some d=>
    cases d<;>simp[hp]at ha;cases hq:P.info? e with
    | none=>simp[hq]at hi
    | some j=>
     have hj:j.size=1:=by simpa [hq] using hi
     cases hcs:cs[i.toNat]? with
     | none=>rw[hcs]at h4;cases h4
     | some u=>simp[execOp,hv,hz,Instr.index,run_underlying hu,asIntOf,h1,h2,sizeOf,typeInfo,hq,hj,part,isAgg,run_underlying hp,hcs]
  ·rfl
 ·rfl
def Ft (l:List UInt32):List Value:=l.map v32
def A32 (l:List UInt32):Value:=.agg (Ft l).toArray
def z32 (k:Nat):List UInt32:=List.replicate k 0
@[simp, go_sem] theorem E1i (k : Nat) : (z32 k).length = k := by simp [z32]
@[simp, go_sem] theorem Rf (l : List UInt32) : (Ft l).length = l.length := by simp [Ft]
theorem Bn {l:List UInt32} {i:Nat} (h:i<l.length):(Ft l)[i]?=some (.int .u32 (Y9 (Sh.Ca l i))):=by
 unfold Ft;rw[List.getElem?_map,List.getElem?_eq_getElem h];simp[h,v32,Sh.Ca]
theorem Yd (l:List UInt32) (i:Nat) (x:UInt32):(Ft l).set i (.int .u32 (Y9 x))=Ft (l.set i x):=by
 show (l.map v32).set i (v32 x)=(l.set i x).map v32;rw[List.map_set]
@[go_sem] theorem E8z (l : List UInt32) : Value.agg (Ft l).toArray = A32 l := rfl
theorem D5l (l:List UInt32):(Ft l).toArray.all (·.oneCell')=true:=by simp[Ft,v32,Value.oneCell']
@[go_sem] theorem D7k (n : Nat) (w : World) (raw : Result Next) (a : Addr) (l : List UInt32) : Y6 n w raw (.pointer (some a)) (A32 l) =
 if l.length=n∧E7 w a n=true then .ok .skip (C4 w a (Ft l)) else raw:=by
 have e:Y6 n w raw (.pointer (some a)) (A32 l)=if (Ft l).toArray.size=n∧(Ft l).toArray.all (·.oneCell')=true∧E7 w a n=true then .ok .skip (C4 w a (Ft l).toArray.toList) else raw:=rfl;rw[e,D5l];simp only[List.size_toArray,Rf,true_and]
def A4w (n:Nat) (w:World) (raw:Result Next):Value→Value→Result Next
 | .agg cs,.int _ i=>if 0≤i∧i<n∧cs.size=n∧(cs[i.toNat]?).isSome then .ok (.value (cs[i.toNat]?.getD undef)) w else raw
 | _,_=>raw
@[go_sem] theorem F3k (n : Nat) (w : World) (raw : Result Next) (k : IntKind) (i : Int) (l : List UInt32) : A4w n w raw (A32 l) (.int k i) =
 if 0≤i∧i<n∧l.length=n then .ok (.value (.int .u32 (Y9 (Sh.Ca l i.toNat)))) w else raw:=by
 have e:A4w n w raw (A32 l) (.int k i)=if 0≤i∧i<n∧(Ft l).toArray.size=n∧((Ft l).toArray[i.toNat]?).isSome then .ok (.value ((Ft l).toArray[i.toNat]?.getD undef)) w else raw:=rfl;rw[e];unfold Ft;by_cases h:0≤i∧i<n∧l.length=n
 ·have hl:i.toNat<l.length:=by omega
  rw[if_pos h,if_pos (by simp;omega)];simp[hl,v32,Sh.Ca]
 ·rw[if_neg h,if_neg (fun hh=>h ⟨hh.1,hh.2.1,by simpa using hh.2.2.1⟩)]
theorem Sq {P:Program} (w:World) (ρ:Operand→Value) (dst:Option Tmp) (ty:TypeId) (pos:String) (after:Array Edge) (guard:Option (Nat×Bool))
 (t e n:TypeId) (x ix:Operand) (hu:P.underlying t=some (.array n e)) (ha:(match P.underlying e with | some (.int _)=>true | _=>false)=true) (hi:(P.info? e).map (·.size)=some 1) :
 (execOp ρ { dst,op:=.index t x ix,type:=ty,pos,after,guard }).run P w=A4w n w (F2 P ρ { dst,op:=.index t x ix,type:=ty,pos,after,guard } w) (ρ x) (ρ ix):=by
 generalize hv:ρ x=v;generalize hz:ρ ix=z;unfold A4w;split
 ·rename_i cs kk i
  split
  ·rename_i hc
   obtain⟨h1,h2,h3,h4⟩:=hc;cases hp:P.underlying e with
   | none=>simp[hp]at ha
   | some d=>
    cases d<;>simp[hp]at ha;cases hq:P.info? e with
    | none=>simp[hq]at hi
    | some j=>
     have hj:j.size=1:=by simpa [hq] using hi
     cases hcs:cs[i.toNat]? with
     | none=>rw[hcs]at h4;cases h4
     | some u=>simp[execOp,hv,hz,Instr.index,run_underlying hu,asIntOf,h1,h2,sizeOf,typeInfo,hq,hj,part,isAgg,run_underlying hp,hcs]
  ·rfl
 ·rfl
def E4 (l:List UInt64):List Value:=l.map Us
def F8 (l:List UInt64):Value:=.agg (E4 l).toArray
def J7 (k:Nat):List UInt64:=List.replicate k 0
@[simp, go_sem] theorem D9e (k : Nat) : (J7 k).length = k := by simp [J7]
@[simp, go_sem] theorem Ln (l : List UInt64) : (E4 l).length = l.length := by simp [E4]
theorem P4 {l:List UInt64} {i:Nat} (h:i<l.length):(E4 l)[i]?=some (.int .u64 (C8 (Sh.E8 l i))):=by
 unfold E4;rw[List.getElem?_map,List.getElem?_eq_getElem h];simp[h,Us,Sh.E8]
theorem Ex (l:List UInt64) (i:Nat) (x:UInt64):(E4 l).set i (.int .u64 (C8 x))=E4 (l.set i x):=by
 show (l.map Us).set i (Us x)=(l.set i x).map Us;rw[List.map_set]
@[go_sem] theorem E6r (l : List UInt64) : Value.agg (E4 l).toArray = F8 l := rfl
theorem C0x (l:List UInt64):(E4 l).toArray.all (·.oneCell')=true:=by simp[E4,Us,Value.oneCell']
@[go_sem] theorem D9b (n : Nat) (w : World) (raw : Result Next) (a : Addr) (l : List UInt64) : Y6 n w raw (.pointer (some a)) (F8 l) =
 if l.length=n∧E7 w a n=true then .ok .skip (C4 w a (E4 l)) else raw:=by
 have e:Y6 n w raw (.pointer (some a)) (F8 l)=if (E4 l).toArray.size=n∧(E4 l).toArray.all (·.oneCell')=true∧E7 w a n=true then .ok .skip (C4 w a (E4 l).toArray.toList) else raw:=rfl;rw[e,C0x];simp only[List.size_toArray,Ln,true_and]
def A1c (n:Nat) (w:World) (raw:Result Next):Value→Value→Result Next
 | .agg cs,.int _ i=>if 0≤i∧i<n∧cs.size=n∧(cs[i.toNat]?).isSome then .ok (.value (cs[i.toNat]?.getD undef)) w else raw
 | _,_=>raw
@[go_sem] theorem F4h (n : Nat) (w : World) (raw : Result Next) (k : IntKind) (i : Int) (l : List UInt64) : A1c n w raw (F8 l) (.int k i) =
 if 0≤i∧i<n∧l.length=n then .ok (.value (.int .u64 (C8 (Sh.E8 l i.toNat)))) w else raw:=by
 have e:A1c n w raw (F8 l) (.int k i)=if 0≤i∧i<n∧(E4 l).toArray.size=n∧((E4 l).toArray[i.toNat]?).isSome then .ok (.value ((E4 l).toArray[i.toNat]?.getD undef)) w else raw:=rfl;rw[e];unfold E4;by_cases h:0≤i∧i<n∧l.length=n
 ·have hl:i.toNat<l.length:=by omega
  rw[if_pos h,if_pos (by simp;omega)];simp[hl,Us,Sh.E8]
 ·rw[if_neg h,if_neg (fun hh=>h ⟨hh.1,hh.2.1,by simpa using hh.2.2.1⟩)]
theorem Kg {P:Program} (w:World) (ρ:Operand→Value) (dst:Option Tmp) (ty:TypeId) (pos:String) (after:Array Edge) (guard:Option (Nat×Bool))
 (t e n:TypeId) (x ix:Operand) (hu:P.underlying t=some (.array n e)) (ha:(match P.underlying e with | some (.int _)=>true | _=>false)=true) (hi:(P.info? e).map (·.size)=some 1) :
 (execOp ρ { dst,op:=.index t x ix,type:=ty,pos,after,guard }).run P w=A1c n w (F2 P ρ { dst,op:=.index t x ix,type:=ty,pos,after,guard } w) (ρ x) (ρ ix):=by
 generalize hv:ρ x=v;generalize hz:ρ ix=z;unfold A1c;split
 ·rename_i cs kk i
  split
  ·rename_i hc
   obtain⟨h1,h2,h3,h4⟩:=hc;cases hp:P.underlying e with
   | none=>simp[hp]at ha
   | some d=>
    cases d<;>simp[hp]at ha;cases hq:P.info? e with
    | none=>simp[hq]at hi
    | some j=>
     have hj:j.size=1:=by simpa [hq] using hi
     cases hcs:cs[i.toNat]? with
     | none=>rw[hcs]at h4;cases h4
     | some u=>simp[execOp,hv,hz,Instr.index,run_underlying hu,asIntOf,h1,h2,sizeOf,typeInfo,hq,hj,part,isAgg,run_underlying hp,hcs]
  ·rfl
 ·rfl
@[go_sem] theorem C4h (w : World) (cs : List Value) (t n : Nat) (h : cs.length = n) : D9 (w.alloc (.cells cs.toArray t)) ⟨w.heap.size, 0, none⟩ n = some cs := by
 subst h;exact (Bk.new w t cs).rows
@[go_sem] theorem C3i (w : World) (cs : List Value) (t n : Nat) (h : cs.length = n) : E7 (w.alloc (.cells cs.toArray t)) ⟨w.heap.size, 0, none⟩ n = true := by
 subst h;exact (Bk.new w t cs).can (by omega)
theorem I8:(Tryz.prog.info? 35).map (·.size)=some 32:=by kernel_rfl
theorem C5m:((Tryz.prog.info? 35).bind (·.zero))=some (A8 (z8 32)):=by kernel_rfl
section
variable (w : World) (ρ : Operand → Value) (dst : Option Tmp) (ty : TypeId) (pos : String) (after : Array Edge) (guard : Option (Nat × Bool))
@[go_sem ↓ high] theorem E7e (x : Operand) :
 (execOp ρ { dst,op:=.load 35 x,type:=ty,pos,after,guard }).run Tryz.prog w=Iy 32 w (F2 Tryz.prog ρ { dst,op:=.load 35 x,type:=ty,pos,after,guard } w) (ρ x):=
 Eu w ρ dst ty pos after guard 35 32 _ x (by decide) Tryz.underlying35 rfl I8
@[go_sem ↓ high] theorem E2w (x y : Operand) :
 (execOp ρ { dst,op:=.store 35 x y,type:=ty,pos,after,guard }).run Tryz.prog w=Y6 32 w (F2 Tryz.prog ρ { dst,op:=.store 35 x y,type:=ty,pos,after,guard } w) (ρ x) (ρ y):=
 Dd w ρ dst ty pos after guard 35 32 x y (by decide) I8
@[go_sem ↓ high] theorem E3v :
 (execOp ρ { dst,op:=.alloc 35,type:=ty,pos,after,guard }).run Tryz.prog w=.ok (.value (.pointer (some ⟨w.heap.size,0,none⟩))) (w.alloc (.cells (c8 (z8 32)).toArray 35)):=
 I7 w ρ dst ty pos after guard 35 (A8 (z8 32)) C5m
@[go_sem ↓ high] theorem E5b (x ix : Operand) :
 (execOp ρ { dst,op:=.index 35 x ix,type:=ty,pos,after,guard }).run Tryz.prog w=D3l 32 w (F2 Tryz.prog ρ { dst,op:=.index 35 x ix,type:=ty,pos,after,guard } w) (ρ x) (ρ ix):=
 Wz w ρ dst ty pos after guard 35 _ 32 x ix Tryz.underlying35 (by kernel_rfl) (by kernel_rfl)
end
theorem Yr:(Tryz.prog.info? 46).map (·.size)=some 64:=by kernel_rfl
theorem C7j:((Tryz.prog.info? 46).bind (·.zero))=some (A8 (z8 64)):=by kernel_rfl
section
variable (w : World) (ρ : Operand → Value) (dst : Option Tmp) (ty : TypeId) (pos : String) (after : Array Edge) (guard : Option (Nat × Bool))
@[go_sem ↓ high] theorem E6j (x : Operand) :
 (execOp ρ { dst,op:=.load 46 x,type:=ty,pos,after,guard }).run Tryz.prog w=Iy 64 w (F2 Tryz.prog ρ { dst,op:=.load 46 x,type:=ty,pos,after,guard } w) (ρ x):=
 Eu w ρ dst ty pos after guard 46 64 _ x (by decide) Tryz.underlying46 rfl Yr
@[go_sem ↓ high] theorem E3z (x y : Operand) :
 (execOp ρ { dst,op:=.store 46 x y,type:=ty,pos,after,guard }).run Tryz.prog w=Y6 64 w (F2 Tryz.prog ρ { dst,op:=.store 46 x y,type:=ty,pos,after,guard } w) (ρ x) (ρ y):=
 Dd w ρ dst ty pos after guard 46 64 x y (by decide) Yr
@[go_sem ↓ high] theorem E3r :
 (execOp ρ { dst,op:=.alloc 46,type:=ty,pos,after,guard }).run Tryz.prog w=.ok (.value (.pointer (some ⟨w.heap.size,0,none⟩))) (w.alloc (.cells (c8 (z8 64)).toArray 46)):=
 I7 w ρ dst ty pos after guard 46 (A8 (z8 64)) C7j
@[go_sem ↓ high] theorem E3q (x ix : Operand) :
 (execOp ρ { dst,op:=.index 46 x ix,type:=ty,pos,after,guard }).run Tryz.prog w=D3l 64 w (F2 Tryz.prog ρ { dst,op:=.index 46 x ix,type:=ty,pos,after,guard } w) (ρ x) (ρ ix):=
 Wz w ρ dst ty pos after guard 46 _ 64 x ix Tryz.underlying46 (by kernel_rfl) (by kernel_rfl)
end
theorem B8o:(Tryz.prog.info? 256).map (·.size)=some 8:=by kernel_rfl
theorem D3b:((Tryz.prog.info? 256).bind (·.zero))=some (A32 (z32 8)):=by kernel_rfl
section
variable (w : World) (ρ : Operand → Value) (dst : Option Tmp) (ty : TypeId) (pos : String) (after : Array Edge) (guard : Option (Nat × Bool))
@[go_sem ↓ high] theorem F2y (x : Operand) :
 (execOp ρ { dst,op:=.load 256 x,type:=ty,pos,after,guard }).run Tryz.prog w=Iy 8 w (F2 Tryz.prog ρ { dst,op:=.load 256 x,type:=ty,pos,after,guard } w) (ρ x):=
 Eu w ρ dst ty pos after guard 256 8 _ x (by decide) Tryz.underlying256 rfl B8o
@[go_sem ↓ high] theorem E5m (x y : Operand) :
 (execOp ρ { dst,op:=.store 256 x y,type:=ty,pos,after,guard }).run Tryz.prog w=Y6 8 w (F2 Tryz.prog ρ { dst,op:=.store 256 x y,type:=ty,pos,after,guard } w) (ρ x) (ρ y):=
 Dd w ρ dst ty pos after guard 256 8 x y (by decide) B8o
@[go_sem ↓ high] theorem F0b :
 (execOp ρ { dst,op:=.alloc 256,type:=ty,pos,after,guard }).run Tryz.prog w=.ok (.value (.pointer (some ⟨w.heap.size,0,none⟩))) (w.alloc (.cells (Ft (z32 8)).toArray 256)):=
 I7 w ρ dst ty pos after guard 256 (A32 (z32 8)) D3b
@[go_sem ↓ high] theorem F0s (x ix : Operand) :
 (execOp ρ { dst,op:=.index 256 x ix,type:=ty,pos,after,guard }).run Tryz.prog w=A4w 8 w (F2 Tryz.prog ρ { dst,op:=.index 256 x ix,type:=ty,pos,after,guard } w) (ρ x) (ρ ix):=
 Sq w ρ dst ty pos after guard 256 _ 8 x ix Tryz.underlying256 (by kernel_rfl) (by kernel_rfl)
end
theorem A9n:(Tryz.prog.info? 261).map (·.size)=some 64:=by kernel_rfl
theorem C7n:((Tryz.prog.info? 261).bind (·.zero))=some (A32 (z32 64)):=by kernel_rfl
section
variable (w : World) (ρ : Operand → Value) (dst : Option Tmp) (ty : TypeId) (pos : String) (after : Array Edge) (guard : Option (Nat × Bool))
@[go_sem ↓ high] theorem F1m (x : Operand) :
 (execOp ρ { dst,op:=.load 261 x,type:=ty,pos,after,guard }).run Tryz.prog w=Iy 64 w (F2 Tryz.prog ρ { dst,op:=.load 261 x,type:=ty,pos,after,guard } w) (ρ x):=
 Eu w ρ dst ty pos after guard 261 64 _ x (by decide) Tryz.underlying261 rfl A9n
@[go_sem ↓ high] theorem E3w (x y : Operand) :
 (execOp ρ { dst,op:=.store 261 x y,type:=ty,pos,after,guard }).run Tryz.prog w=Y6 64 w (F2 Tryz.prog ρ { dst,op:=.store 261 x y,type:=ty,pos,after,guard } w) (ρ x) (ρ y):=
 Dd w ρ dst ty pos after guard 261 64 x y (by decide) A9n
@[go_sem ↓ high] theorem E4r :
 (execOp ρ { dst,op:=.alloc 261,type:=ty,pos,after,guard }).run Tryz.prog w=.ok (.value (.pointer (some ⟨w.heap.size,0,none⟩))) (w.alloc (.cells (Ft (z32 64)).toArray 261)):=
 I7 w ρ dst ty pos after guard 261 (A32 (z32 64)) C7n
@[go_sem ↓ high] theorem E2x (x ix : Operand) :
 (execOp ρ { dst,op:=.index 261 x ix,type:=ty,pos,after,guard }).run Tryz.prog w=A4w 64 w (F2 Tryz.prog ρ { dst,op:=.index 261 x ix,type:=ty,pos,after,guard } w) (ρ x) (ρ ix):=
 Sq w ρ dst ty pos after guard 261 _ 64 x ix Tryz.underlying261 (by kernel_rfl) (by kernel_rfl)
end
theorem A7r:(Tryz.prog.info? 257).map (·.size)=some 8:=by kernel_rfl
theorem D4e:((Tryz.prog.info? 257).bind (·.zero))=some (F8 (J7 8)):=by kernel_rfl
section
variable (w : World) (ρ : Operand → Value) (dst : Option Tmp) (ty : TypeId) (pos : String) (after : Array Edge) (guard : Option (Nat × Bool))
@[go_sem ↓ high] theorem F5i (x : Operand) :
 (execOp ρ { dst,op:=.load 257 x,type:=ty,pos,after,guard }).run Tryz.prog w=Iy 8 w (F2 Tryz.prog ρ { dst,op:=.load 257 x,type:=ty,pos,after,guard } w) (ρ x):=
 Eu w ρ dst ty pos after guard 257 8 _ x (by decide) Tryz.underlying257 rfl A7r
@[go_sem ↓ high] theorem E7j (x y : Operand) :
 (execOp ρ { dst,op:=.store 257 x y,type:=ty,pos,after,guard }).run Tryz.prog w=Y6 8 w (F2 Tryz.prog ρ { dst,op:=.store 257 x y,type:=ty,pos,after,guard } w) (ρ x) (ρ y):=
 Dd w ρ dst ty pos after guard 257 8 x y (by decide) A7r
@[go_sem ↓ high] theorem F0m :
 (execOp ρ { dst,op:=.alloc 257,type:=ty,pos,after,guard }).run Tryz.prog w=.ok (.value (.pointer (some ⟨w.heap.size,0,none⟩))) (w.alloc (.cells (E4 (J7 8)).toArray 257)):=
 I7 w ρ dst ty pos after guard 257 (F8 (J7 8)) D4e
@[go_sem ↓ high] theorem E8o (x ix : Operand) :
 (execOp ρ { dst,op:=.index 257 x ix,type:=ty,pos,after,guard }).run Tryz.prog w=A1c 8 w (F2 Tryz.prog ρ { dst,op:=.index 257 x ix,type:=ty,pos,after,guard } w) (ρ x) (ρ ix):=
 Kg w ρ dst ty pos after guard 257 _ 8 x ix Tryz.underlying257 (by kernel_rfl) (by kernel_rfl)
end
theorem A1o:(Tryz.prog.info? 259).map (·.size)=some 80:=by kernel_rfl
theorem C9t:((Tryz.prog.info? 259).bind (·.zero))=some (F8 (J7 80)):=by kernel_rfl
section
variable (w : World) (ρ : Operand → Value) (dst : Option Tmp) (ty : TypeId) (pos : String) (after : Array Edge) (guard : Option (Nat × Bool))
@[go_sem ↓ high] theorem F2p (x : Operand) :
 (execOp ρ { dst,op:=.load 259 x,type:=ty,pos,after,guard }).run Tryz.prog w=Iy 80 w (F2 Tryz.prog ρ { dst,op:=.load 259 x,type:=ty,pos,after,guard } w) (ρ x):=
 Eu w ρ dst ty pos after guard 259 80 _ x (by decide) Tryz.underlying259 rfl A1o
@[go_sem ↓ high] theorem E3y (x y : Operand) :
 (execOp ρ { dst,op:=.store 259 x y,type:=ty,pos,after,guard }).run Tryz.prog w=Y6 80 w (F2 Tryz.prog ρ { dst,op:=.store 259 x y,type:=ty,pos,after,guard } w) (ρ x) (ρ y):=
 Dd w ρ dst ty pos after guard 259 80 x y (by decide) A1o
@[go_sem ↓ high] theorem E4i :
 (execOp ρ { dst,op:=.alloc 259,type:=ty,pos,after,guard }).run Tryz.prog w=.ok (.value (.pointer (some ⟨w.heap.size,0,none⟩))) (w.alloc (.cells (E4 (J7 80)).toArray 259)):=
 I7 w ρ dst ty pos after guard 259 (F8 (J7 80)) C9t
@[go_sem ↓ high] theorem E3j (x ix : Operand) :
 (execOp ρ { dst,op:=.index 259 x ix,type:=ty,pos,after,guard }).run Tryz.prog w=A1c 80 w (F2 Tryz.prog ρ { dst,op:=.index 259 x ix,type:=ty,pos,after,guard } w) (ρ x) (ρ ix):=
 Kg w ρ dst ty pos after guard 259 _ 80 x ix Tryz.underlying259 (by kernel_rfl) (by kernel_rfl)
end
end Go.Proofs.YtdfpoofbgjilgaaGreat
namespace Go.Proofs.YtdfpoofbgjilgaaGreat
open Go Go.RowKit
def I5 (w:World) (base:Nat) (v:Value) (l:List UInt8):Prop:=w.ownsRow base 5 1 v l.length (l.map v8)
theorem I5.by_ {w:World} {base:Nat} {v:Value} {l:List UInt8} (h:I5 w base v l):By w base w.heap.size v l:=Sl.of_own h
theorem I5.nil (w:World) (base:Nat):I5 w base (.slice none 0 0) []:=World.ownsRow_nil w base _ _
theorem I5.below {w w':World} {base B:Nat} {v:Value} {l:List UInt8} (h:I5 w base v l) (hb:Below B w w') (hB:w.heap.size≤B):I5 w' base v l:=by
 refine World.ownsRow.kept (row:=none) h ⟨hb.os,hb.tape,hb.output,hb.size,fun k hk _=>hb.block k (by omega)⟩ ?_;cases hv:v.ownBlock<;>simp
theorem I5.kept {w w':World} {base:Nat} {v:Value} {l:List UInt8} {row:Option Nat} (h:I5 w base v l) (hg:w.grownBy w' row) (hne:v.ownBlock=none∨v.ownBlock≠row):I5 w' base v l:=World.ownsRow.kept h hg hne
theorem I5.less {w:World} {base base':Nat} {v:Value} {l:List UInt8} (h:I5 w base v l) (hb:base'≤base):I5 w base' v l:=by
 refine ⟨h.1,?_⟩;rcases h.2 with h2 | ⟨g,cap,cur,hv,hg,r⟩
 ·exact .inl h2
 ·exact .inr ⟨g,cap,cur,hv,by omega,r⟩
theorem I5.alloc {w:World} {base:Nat} {v:Value} {l:List UInt8} (h:I5 w base v l) (o:Obj):I5 (w.alloc o) base v l:=World.ownsRow.alloc h o
theorem I5.form {w:World} {base:Nat} {v:Value} {l:List UInt8} (h:I5 w base v l):∃A c,v=.slice A l.length c∧l.length≤c∧c≤9223372036854775807:=by
 obtain⟨A,c,h1,h2,h3,_⟩:=h.by_.open_;exact ⟨A,c,h1,h2,h3⟩
theorem I5.take {w:World} {base:Nat} {A:Option Addr} {n c:Nat} {l:List UInt8} (h:I5 w base (.slice A n c) l) {k:Nat} (hk:k≤l.length):I5 w base (.slice A k c) (l.take k):=by
 have aA:(l.take k).length=k:=by simp;omega
 refine ⟨by simp,?_⟩;rw[aA];rcases h.2 with ⟨hv,hn⟩ | ⟨g,cap,cur,hv,hg,hh,hc,hm,hs,ht⟩
 ·injection hv with e1 e2 e3;have:k=0:=by omega
  subst this;subst e1;subst e3;exact .inl ⟨rfl,rfl⟩
 ·injection hv with e1 e2 e3;subst e1;subst e3;refine .inr ⟨g,c,cur,rfl,hg,hh,by omega,hm,hs,?_⟩;rw[List.map_take,←ht,List.take_take];congr 1;omega
theorem A5k:(Tryz.prog.info? 5).map (fun i=>(i.zero,i.size,i.bytes))=some (some (.int .u8 0),1,1):=by kernel_rfl
section
variable (w : World) (base : Nat) (v : Value) (l : List UInt8)
theorem Mh {w w':World} {base:Nat} {v:Value} {l:List UInt8} (hown:I5 w base v l) (hg:w.grownBy w' v.ownBlock) (hb:base≤w.heap.size):Below base w w':=
 (Below.refl _ _).grown hg hb fun k hk=>(hown.lt k hk).1
theorem C9e (hown:I5 w base v l) (x:Value) (m:List UInt8) (lo B:Nat) (hx:By w lo B x m) (hsz:l.length+m.length≤70368744177664) (hb:base≤w.heap.size) (ty:TypeId) :
 ∃v' w',(Builtin.append_ #[29,29] ty #[v,x]).run Tryz.prog w=.ok v' w'∧I5 w' base v' (l++m)∧w.grownBy w' v.ownBlock∧(v'.ownBlock=v.ownBlock∨v'.ownBlock=some w.heap.size):=by
 obtain⟨i0,aB,aD,aE,aF⟩:=info_parts A5k;obtain⟨A,c,rfl,h2,h3,h4⟩:=hx.open_;have aA:∀u∈m.map v8,u.oneCell'=true:=by intro u hu;obtain⟨x,_,rfl⟩:=List.mem_map.1 hu;rfl
 have aC:∀a:Addr,(∀j u,(m.map v8)[j]?=some u→w.cell? (a.add j)=some u)→∃v' w',(Builtin.append_ #[29,29] ty #[v,.slice (some a) m.length c]).run Tryz.prog w=.ok v' w'∧I5 w' base v' (l++m)∧w.grownBy w' v.ownBlock∧(v'.ownBlock=v.ownBlock∨v'.ownBlock=some w.heap.size):=by
  intro a hc;obtain⟨v',w',h5,h6,h7,_,h8⟩:=run_append_own_at (P:=Tryz.prog) w base 29 ty 5 i0 (.int .u8 0) 1 1 Tryz.underlying29 aB aD aE aF rfl (by decide) v l.length (l.map v8) hown a m.length c (m.map v8) (by simp) hc aA
   (by simp only[maxLen];omega) (by omega) hb
  refine ⟨v',w',h5,?_,h7,h8⟩;unfold I5;rw[List.length_append,List.map_append];exact h6
 rcases h4 with h4 | ⟨g,o,rfl,_,_,hc⟩
 ·have hm:m=[]:=by simpa using h4
  subst hm;cases A with
  | some a=>exact aC a (by simp)
  | none=>
   exact ⟨v,w,Ls w base _ ty _ i0 1 Tryz.underlying29 aB v _ _ hown c,by simpa using hown,World.grownBy.refl w _,.inl rfl⟩
 ·exact aC ⟨g,o,none⟩ (fun j u hj=>by rw[Q3];exact hc j u hj)
variable {ops : Array Oper} {rest : List Oper} {o : Oper} {a : Act} {Q : Exit → Act → World → Prop}
theorem Ud (hgd:o.guard=none) (s x:Operand) (ho:o.op=.call { callee:=.builtin .append,args:=#[s,x],argTypes:=#[29,29] })
 (hs:a.eval s=v) (hown:I5 w base v l) (y:Value) (hx:a.eval x=y) (m:List UInt8) (lo B:Nat) (hy:By w lo B y m) (hsz:l.length+m.length≤70368744177664) (hb:base≤w.heap.size)
 (h:∀A c w',(l++m).length≤c→c≤9223372036854775807→I5 w' base (.slice A (l++m).length c) (l++m)→Below base w w'→w.grownBy w' v.ownBlock→((Value.slice A (l++m).length c).ownBlock=v.ownBlock∨(Value.slice A (l++m).length c).ownBlock=some w.heap.size)→wpList Tryz.prog ops Q rest (a.put o.dst (.slice A (l++m).length c)) w'):wpList Tryz.prog ops Q (o::rest) a w:=
 wpList_plain hgd fun _ hK=>by
  obtain⟨v',w',hr,h2,h3,h4⟩:=C9e w base v l hown y m lo B hy hsz hb o.type;unfold Oper.wp execOp;simp only[ho,resolve,invoke,builtin,Sem.run_bind,Sem.run_pure,Result.andThen_ok,List.map_toArray,List.map_cons,List.map_nil,hs,hx,hr];obtain⟨A,c,rfl,aA,aB⟩:=h2.form;exact hK _ _ (h A c w' aA aB h2 (Mh hown h3 hb) h3 h4)
theorem Hd (hgd:o.guard=none) (s x:Operand) (ho:o.op=.call { callee:=.builtin .append,args:=#[s,x],argTypes:=#[29,29] })
 (hs:a.eval s=v) (hown:I5 w base v l) (c:Int) (b:UInt8) (hc:c=n8 b) (hx:a.eval x=.slice (some ⟨w.heap.size,0,none⟩) 1 1) (hsz:l.length≤35184372088832) (hb:base≤w.heap.size)
 (h:∀A c w',(l++[b]).length≤c→c≤9223372036854775807→I5 w' base (.slice A (l++[b]).length c) (l++[b])→Below base w w'→wpList Tryz.prog ops Q rest (a.put o.dst (.slice A (l++[b]).length c)) w'):wpList Tryz.prog ops Q (o::rest) a (w.alloc (.cells #[.int .u8 c] 5)):=by
 have hy:By (w.alloc (.cells #[.int .u8 c] 5)) 0 (w.heap.size+1) (.slice (some ⟨w.heap.size,0,none⟩) 1 1) [b]:=by
  refine By.mk_ (l:=[b]) (by simp) (by simp[maxLen]) (.inr ⟨_,_,rfl,Nat.zero_le _,by omega,fun j u hj=>?_⟩);have hB:=Bk.new w 5 [Value.int .u8 c];match j,hj with
  | 0,hj=>simp[v8,←hc]at hj;subst hj;exact hB.at_ rfl
  | j+1,hj=>simp at hj
 refine Ud _ base v l hgd s x ho hs (hown.alloc _) _ hx [b] 0 _ hy (by simp;omega) (by simp;omega) fun A c w' hc1 hc2 h1 h2 h3 h4=>h A c w' hc1 hc2 h1 ?_;exact ((Below.refl _ _).alloc hb _).trans h2
theorem Qr (hgd:o.guard=none) (s x:Operand) (ho:o.op=.call { callee:=.builtin .append,args:=#[s,x],argTypes:=#[29,3] })
 (hs:a.eval s=v) (hown:I5 w base v l) (n:Nat) (k:IntKind) (hx:a.eval x=.int k (n:Int)) (hsz:l.length+n≤70368744177664) (hb:base≤w.heap.size)
 (h:∀A c w',(l++List.replicate n 0).length≤c→c≤9223372036854775807→I5 w' base (.slice A (l++List.replicate n 0).length c) (l++List.replicate n 0)→Below base w w'→wpList Tryz.prog ops Q rest (a.put o.dst (.slice A (l++List.replicate n 0).length c)) w'):wpList Tryz.prog ops Q (o::rest) a w:=
 wpList_plain hgd fun _ hK=>by
  obtain⟨i0,aA,aB,aC,aD⟩:=info_parts A5k;obtain⟨v',w',hr,h2,h3,h4⟩:=Vw (P:=Tryz.prog) w base 29 3 o.type 5 i0 (.int .u8 0) 1 Tryz.underlying29 .i64 Tryz.underlying3 aA aB aC aD rfl rfl v l.length (l.map v8) hown k n
   (by simp only[maxLen];omega) (by omega) hb
  unfold Oper.wp execOp;simp only[ho,resolve,invoke,builtin,Sem.run_bind,Sem.run_pure,Result.andThen_ok,List.map_toArray,List.map_cons,List.map_nil,hs,hx,hr];have h5:I5 w' base v' (l++List.replicate n 0):=by
   unfold I5;rw[List.length_append,List.map_append,List.length_replicate,List.map_replicate];exact h2
  obtain⟨A,c,rfl,aE,aF⟩:=h5.form;exact hK _ _ (h A c w' aE aF h5 (Mh hown h3 hb))
end
end Go.Proofs.YtdfpoofbgjilgaaGreat
namespace Go.Proofs.YtdfpoofbgjilgaaGreat
open Go Go.RowKit Sh
theorem Lt {P:Program} {ops:Array Oper} {rest:List Oper} {o:Oper} {a:Act} {w:World} {Q:Exit→Act→World→Prop} (hg:o.guard=none) (t:TypeId) (parts:Array (Nat×Operand)) (ho:o.op=.build t parts)
 (cells:Array Value) (hf:P.built t (parts.map fun (i,x)=>(i,a.eval x)).toList=some cells)
 (h:wpList P ops Q rest (a.put o.dst (.agg cells)) w):wpList P ops Q (o::rest) a w:=
 wpList_build hg t parts ho (by rw[hf];rfl) (by rw[hf];exact h)
theorem C7 {P:Program} {fn:Func} {p:Tmp} {ty:TypeId} (h:fn.results=#[.cell p ty]) (tmps:Array Value) (w:World) (g:Nat) (t:TypeId) (cs:List Value) (d:TypeDesc)
 (hp:tmps.getD p undef=.pointer (some ⟨g,0,none⟩)) (hg:Bk w g t cs)
 (hu:P.underlying ty=some d) (hd:(match d with | .struct _ | .array _ _=>true | _=>false)=true) (hi:(P.info? ty).map (·.size)=some cs.length) :
 (results fn tmps).run P w=.ok (.agg cs.toArray) w:=results_cell_row h tmps w g t cs.toArray (0,0) d hp hg hu hd (by simpa using hi)
set_option maxRecDepth 100000 in
set_option maxHeartbeats 400000 in
theorem A4r (w:World) :
 Calls Tryz.prog 160 #[] w fun e w'=>e=.returned (F8 Ae)∧Below w.heap.size w w':=by
 have aA:Ae.length=8:=by decide +kernel
 go_enter Tryz.func160,Tryz.ntmps160;go_wp2_with (refine Lt rfl _ _ rfl (E4 Ae).toArray (by kernel_rfl) ?_);exact bodyPost_ret (C7 rfl _ _ _ _ _ _ rfl ((Bk.new w _ _).puts (by simp[aA])) Tryz.underlying257 rfl (by simp[A7r,aA])) rfl
  ⟨rfl,C0 ((Below.refl _ _).alloc (Nat.le_refl _) _) (Nat.le_refl _) _⟩
set_option maxRecDepth 100000 in
set_option maxHeartbeats 400000 in
theorem A3v (w:World) :
 Calls Tryz.prog 161 #[] w fun e w'=>e=.returned (F8 Y0)∧Below w.heap.size w w':=by
 have aA:Y0.length=80:=by decide +kernel
 go_enter Tryz.func161,Tryz.ntmps161;go_wp2_with (refine Lt rfl _ _ rfl (E4 Y0).toArray (by kernel_rfl) ?_);exact bodyPost_ret (C7 rfl _ _ _ _ _ _ rfl ((Bk.new w _ _).puts (by simp[aA])) Tryz.underlying259 rfl (by simp[A1o,aA])) rfl
  ⟨rfl,C0 ((Below.refl _ _).alloc (Nat.le_refl _) _) (Nat.le_refl _) _⟩
end Go.Proofs.YtdfpoofbgjilgaaGreat
namespace Go.Proofs.YtdfpoofbgjilgaaGreat
open Go Go.RowKit Sh
def J9 (w:World) (B:Nat) (v:Value) (ls:List (List UInt8)):Prop:=
 ∃vs:List Value,Sl w 0 B v vs∧vs.length=ls.length∧∀(i:Nat) (x:Value) (l:List UInt8),vs[i]?=some x→ls[i]?=some l→By w 0 B x l
theorem J9.below {w w':World} {B:Nat} {v:Value} {ls:List (List UInt8)} (h:J9 w B v ls) (hb:Below B w w'):J9 w' B v ls:=
 let ⟨vs,h1,h2,h3⟩:=h;⟨vs,h1.below hb,h2,fun i x l hx hl=>(h3 i x l hx hl).below hb⟩
theorem J9.more {w:World} {B B':Nat} {v:Value} {ls:List (List UInt8)} (h:J9 w B v ls) (hB:B≤B'):J9 w B' v ls:=
 let ⟨vs,h1,h2,h3⟩:=h;⟨vs,h1.more hB,h2,fun i x l hx hl=>(h3 i x l hx hl).more hB⟩
set_option maxHeartbeats 1000000 in
theorem D0u (n:Nat) (hn:n≤35184372088832) (w:World) :
 Calls Tryz.prog 183 #[.slice none 0 0,.int .i64 n] w fun e w'=>∃v,e=.returned v∧I5 w' w.heap.size v []∧Below w.heap.size w w':=by
 by_cases h0:n=0
 ·subst h0;go_enter Tryz.func183,Tryz.ntmps183;go_wp2;go_ret;exact ⟨_,rfl,I5.nil _ _,Below.refl _ _⟩
 ·have hp:(0:Int)<(n:Int):=by omega
  go_enter Tryz.func183,Tryz.ntmps183;go_wp2_with (at_builtin;refine Qr _ w.heap.size (.slice none 0 0) [] rfl _ _ rfl rfl (I5.nil _ _) n .i64 rfl (by simp;omega) (Nat.le_refl _) ?_;intro A c w1 aC aD aA aB);go_ret;exact ⟨_,rfl,by simpa using aA.take (k:=0) (Nat.zero_le _),aB⟩
def gl (ls:List (List UInt8)) (k:Nat):List UInt8:=ls.getD k []
def cat (ls:List (List UInt8)) (k:Nat):List UInt8:=(ls.take k).flatten
theorem J9.at_ {w:World} {B:Nat} {vs:List Value} {ls:List (List UInt8)} {k:Nat} (h2:vs.length=ls.length) (h3:∀(i:Nat) (x:Value) (l:List UInt8),vs[i]?=some x→ls[i]?=some l→By w 0 B x l) (hk:k<ls.length) :
 ∃A c,vs[k]?=some (.slice A (gl ls k).length c)∧(gl ls k).length≤c∧c≤9223372036854775807∧By w 0 B (.slice A (gl ls k).length c) (gl ls k):=by
 have hv:vs[k]?=some vs[k]:=List.getElem?_eq_getElem (by omega);have hl:ls[k]?=some (gl ls k):=by unfold gl;rw[List.getElem?_eq_getElem hk];simp[hk]
 have hb:=h3 k _ _ hv hl;obtain⟨A,c,e,h4,h5,_⟩:=hb.open_;exact ⟨A,c,by rw[hv,e],h4,h5,e▸hb⟩
theorem B2s (ls:List (List UInt8)) (k:Nat) (hk:k<ls.length):cat ls (k+1)=cat ls k++gl ls k:=by
 unfold cat gl;rw[List.take_add_one,List.flatten_append];simp[hk]
theorem B6n (ls:List (List UInt8)) (k:Nat):(cat ls k).length≤ls.flatten.length:=by
 have:ls.flatten=cat ls k++(ls.drop k).flatten:=by unfold cat;rw[←List.flatten_append,List.take_append_drop]
 rw[this,List.length_append];omega
theorem D3c (ls:List (List UInt8)):cat ls ls.length=ls.flatten:=by unfold cat;rw[List.take_length]
set_option maxHeartbeats 2000000 in
theorem Sb (v:Value) (ls:List (List UInt8)) (w:World) (hp:J9 w w.heap.size v ls) (hsz:ls.flatten.length≤17592186044416) :
 Calls Tryz.prog 135 #[v] w fun e w'=>∃u,e=.returned u∧I5 w' w.heap.size u ls.flatten∧Below w.heap.size w w':=by
 obtain⟨vs,⟨A,c,rfl,hc,aJ,aC⟩,aD,aE⟩:=hp;have aK:vs.length≤9223372036854775807:=by unfold maxLen at aJ;omega
 rw[aD]at aK hc;rw[aD];go_enter Tryz.func135,Tryz.ntmps135;go_wp2_with fail;go_loop [3,11] (fun s i=>∃k:Nat,k≤ls.length∧i=.int .i64 k∧s=.int .i64 ((cat ls k).length)) (fun _ i=>ls.length-(intOf i).toNat)
 case atStart=>exact ⟨0,Nat.zero_le _,rfl,rfl⟩
 case round=>
  obtain⟨k,hk,rfl,rfl⟩:=hrel;by_cases hlt:k<ls.length
  ·obtain⟨g,o,rfl,_,hg,aA⟩:=aC.some (by omega);obtain⟨Ak,ck,hx,_,_,_⟩:=J9.at_ aD aE hlt;have aL:=aA k _ hx;have aB:=B2s ls k hlt;have aF:=B6n ls (k+1);rw[aB,List.length_append]at aF;have HF:=Lib.hid aB;clear aB hx aA aE aC;have aO:(0:Int)≤(((cat ls k).length:Nat):Int)+((gl ls k).length:Nat):=by omega
   go_wp2_with fail;go_round;case rel=>exact ⟨k+1,by omega,by go_num,by rw[HF.out,List.length_append];go_num⟩
   case measure=>simp[intOf];omega
  ·obtain rfl:k=ls.length:=by omega
   have aF:=B6n ls ls.length;go_wp2_with fail;refine (D0u (cat ls ls.length).length (by omega) _).mono ?_;rintro e w1 ⟨u,rfl,ho,hb⟩;go_wp2_with fail;go_loopw [6,27] (fun u i wr=>∃k:Nat,k≤ls.length∧i=.int .i64 k∧I5 wr w.heap.size u (cat ls k)∧Below w.heap.size w wr) (fun _ i _=>ls.length-(intOf i).toNat)
   case atStart=>exact ⟨0,Nat.zero_le _,rfl,ho,hb⟩
   case round=>
    clear ho hb;obtain⟨k,hk,rfl,ho,hb⟩:=hrel;by_cases hlt:k<ls.length
    ·obtain⟨g,o,rfl,_,hg,aA⟩:=aC.some (by omega);obtain⟨Ak,ck,hx,aP,aQ,aH⟩:=J9.at_ aD aE hlt;have aL:wr.cell? ⟨g,o+k,none⟩=_:=(hb.cell (by exact hg)).trans (aA k _ hx);have aB:=B2s ls k hlt;have aF:=B6n ls (k+1);rw[aB,List.length_append]at aF;have HF:=Lib.hid aB;have aG:=aH.below hb;clear aB hx aA aE aC aH;go_wp2_with (at_builtin;refine Ud _ w.heap.size _ _ rfl _ _ rfl rfl ho _ rfl (gl ls k) 0 w.heap.size aG (by omega) hb.size ?_;intro A2 c2 w2 aR aS aI aM aT aN);go_roundw;case rel=>exact ⟨k+1,by omega,by go_num,by rw[List.length_append]at aI;rw[HF.out];exact aI,hb.trans aM⟩
     case measure=>simp[intOf];omega
    ·obtain rfl:k=ls.length:=by omega
     have ca:=Lib.hid (D3c ls);go_wp2_with fail;go_ret;exact ⟨_,rfl,by rw[←ca.out];exact ho,hb⟩
def pz (m:List UInt8) (j:Nat):List UInt8:=m++[128]++List.replicate j 0
theorem Q8 (m:List UInt8) (j:Nat):(pz m j).length=m.length+1+j:=by simp[pz];omega
theorem B9z (m:List UInt8):pz m 0=m++[128]:=by simp[pz]
theorem Yq (m:List UInt8) (j:Nat):pz m (j+1)=pz m j++[0]:=by simp[pz,List.replicate_succ']
def ps (P:List UInt8) (N:UInt64) (j:Nat):List UInt8:=P++(J3 N).take j
theorem Pv (P:List UInt8) (N:UInt64) (j:Nat) (hj:j≤8):(ps P N j).length=P.length+j:=by
 have:(J3 N).length=8:=rfl;simp[ps,this];omega
theorem D3j (P:List UInt8) (N:UInt64) (j:Nat) (b:UInt8) (hb:(J3 N)[j]?=some b):ps P N j++[b]=ps P N (j+1):=by
 unfold ps;rw[List.take_add_one,hb];simp
theorem D1c {w:World} {base:Nat} {A:Option Addr} {c j:Nat} {P:List UInt8} {N:UInt64} {b:UInt8} (hj:j<8) (hb:(J3 N)[j]?=some b) (hd1:(ps P N j++[b]).length≤c) (hd2:c≤9223372036854775807)
 (ho:I5 w base (.slice A (ps P N j++[b]).length c) (ps P N j++[b])) :
 Value.slice A ((ps P N j).length+1) c=.slice A (P.length+(j+1)) c∧P.length+(j+1)≤c∧c≤9223372036854775807∧I5 w base (.slice A (P.length+(j+1)) c) (ps P N (j+1)):=by
 have h1:=Pv P N j (by omega);have h2:=Pv P N (j+1) (by omega);rw[D3j P N j b hb,h2]at hd1 ho;exact ⟨by rw[h1,Nat.add_assoc],hd1,hd2,ho⟩
def B2f:Value→Nat | .slice _ n _=>n | _=>0
set_option maxHeartbeats 8000000 in
theorem C3j (v:Value) (ls:List (List UInt8)) (w:World) (hp:J9 w w.heap.size v ls) (hsz:ls.flatten.length≤1099511627776) :
 Calls Tryz.prog 162 #[v,.int .i64 64] w fun e w'=>∃u,e=.returned u∧By w' w.heap.size w'.heap.size u (pad 64 ls.flatten)∧Below w.heap.size w w':=by
 go_enter Tryz.func162,Tryz.ntmps162;go_wp2_with fail;refine (Sb v ls w hp (by omega)).mono ?_;rintro e w1 ⟨u,rfl,ho,hb⟩;have hn:=hsz;generalize hm:ls.flatten=m at *;have Hm:=Lib.hid hm;clear hm hp hsz;obtain⟨A,c,rfl,hc,aR⟩:=ho.form;have aF:pad 64 m=pz m (A4a 64 m.length)++List.replicate 0 0++J3 (8*UInt64.ofNat m.length):=rfl;have aK:=Lib.hid aF;clear aF;generalize hml:m.length=n at *;have hw:IntKind.u64.wrap (n:Int)=C8 (UInt64.ofNat n):=by
  rw[Eb];unfold C8;simp
 have aB:=Lib.hid hml;clear hml;go_wp2_with (at_builtin;refine Hd _ w.heap.size _ m rfl _ _ rfl rfl ho 128 128 rfl rfl (by rw[aB.out];omega) hb.size ?_;intro A2 c2 w2 aG aH aA aC);have aI:=hb.trans aC;rw[←B9z]at aA;clear ho hb aC hc aR;generalize hz:A4a 64 n=z at *;have aL:z=(64-(n+1+8) % 64) % 64:=by rw[←hz];rfl
 have aM:=Lib.hid aL;have aV:z<64:=by omega
 clear hz aL;go_loopw [5] (fun b wr=>∃(j:Nat) (A:Option Addr) (c:Nat),j≤z∧b=.slice A (n+1+j) c∧n+1+j≤c∧c≤9223372036854775807∧I5 wr w.heap.size (.slice A (n+1+j) c) (pz m j)∧Below w.heap.size w wr) (fun b _=>n+1+z-B2f b)
 case atStart=>exact ⟨0,A2,c2,Nat.zero_le _,by simp[aB.out],by simpa [aB.out] using aG,aH,by simpa [Q8,aB.out,pz] using aA,aI⟩
 case round=>
  clear aA aI aG aH;obtain⟨j,A,c,hj,rfl,aG,aH,ho,hb⟩:=hrel;by_cases hlt:j<z
  ·have aN:((n:Int)+1+j+8) % 64≠0:=by have:=aM.out;omega
   go_wp2_with (at_builtin;refine Hd _ w.heap.size _ (pz m j) rfl _ _ rfl rfl ho 0 0 rfl rfl (by rw[Q8,aB.out];omega) hb.size ?_;intro A2 c2 w2 aD aE aA aC);have he:(pz m j++[0]).length=n+1+(j+1):=by rw[←Yq,Q8,aB.out]
   rw[he]at aD aA;rw[←Yq]at aA;go_roundw;case rel=>exact ⟨j+1,A2,c2,by omega,by rw[show (pz m j).length+1=n+1+(j+1) from by rw[Q8,aB.out];omega],aD,aE,aA,hb.trans aC⟩
   case measure=>simp[B2f,Q8,aB.out];omega
  ·obtain rfl:j=z:=by omega
   have aN:((n:Int)+1+j+8) % 64=0:=by have:=aM.out;omega
   go_wp2_with (at_builtin;refine Qr _ w.heap.size _ (pz m j) rfl _ _ rfl rfl ho 0 .i64 rfl (by rw[Q8,aB.out];omega) hb.size ?_;intro A2 c2 w2 aD aE aA aC);have aO:=hb.trans aC;generalize hP:pz m j++List.replicate 0 0=P at *;have aP:P.length=n+1+j+0:=by rw[←hP];simp[Q8,aB.out]
   have HP:=Lib.hid hP;have aJ:=Lib.hid aP;clear hP aP ho hb aC aN hlt aG aH;go_wp2_with fail;go_loopw [5,7] (fun b i wr=>∃(j:Nat) (A:Option Addr) (c:Nat),j≤8∧i=.int .i64 (56-8*(j:Int))∧(b=.slice A (P.length+j) c∧P.length+j≤c∧c≤9223372036854775807∧I5 wr w.heap.size (.slice A (P.length+j) c) (ps P (8*UInt64.ofNat n) j))∧Below w.heap.size w wr) (fun b i _=>(intOf i+8).toNat)
   case atStart=>exact ⟨0,A2,c2,by omega,rfl,⟨by simp[aJ.out,Q8,aB.out],by simpa [aJ.out] using aD,aE,by simpa [aJ.out,ps] using aA⟩,aO⟩
   case round=>
    clear aA aO aD aE;obtain⟨j,A,c,hj,rfl,⟨rfl,aG,aH,ho⟩,hb⟩:=hrel;have aQ:=aJ.out;have aS:P.length+j≤35184372088832:=by omega
    have aW:P.length≤1099511627976:=by omega
    have aX:=Lib.hid aQ;clear aQ;by_cases hlt:j<8
    ·have aT:j=0∨j=1∨j=2∨j=3∨j=4∨j=5∨j=6∨j=7:=by omega
     have hl:=Pv P (8*UInt64.ofNat n) j hj;have aU:(ps P (8*UInt64.ofNat n) j).length≤35184372088832:=by omega
     clear hl aS;rcases aT with rfl | rfl | rfl | rfl | rfl | rfl | rfl | rfl;all_goals
      go_wp2_with (at_builtin;refine Hd _ w.heap.size _ (ps P (8*UInt64.ofNat n) _) rfl _ _ rfl rfl ho _ _ rfl rfl aU hb.size ?_;intro A2 c2 w2 aD aE aA aC);have R:=D1c (by omega) (by simp[J3]) aD aE aA;go_roundw;case rel=>exact ⟨_,A2,c2,by omega,by go_num,R,hb.trans aC⟩
      case measure=>simp[intOf]
    ·obtain rfl:j=8:=by omega
     have e:pad 64 m=ps P (8*UInt64.ofNat n) 8:=by rw[aK.out];rfl
     have he:=Lib.hid e;clear e;go_wp2_with fail;go_ret;exact ⟨_,rfl,by rw[Hm.out,Hid.out he];exact I5.by_ ho,hb⟩
set_option maxHeartbeats 8000000 in
theorem B7j (v:Value) (ls:List (List UInt8)) (w:World) (hp:J9 w w.heap.size v ls) (hsz:ls.flatten.length≤1099511627776) :
 Calls Tryz.prog 162 #[v,.int .i64 128] w fun e w'=>∃u,e=.returned u∧By w' w.heap.size w'.heap.size u (pad 128 ls.flatten)∧Below w.heap.size w w':=by
 go_enter Tryz.func162,Tryz.ntmps162;go_wp2_with fail;refine (Sb v ls w hp (by omega)).mono ?_;rintro e w1 ⟨u,rfl,ho,hb⟩;have hn:=hsz;generalize hm:ls.flatten=m at *;have Hm:=Lib.hid hm;clear hm hp hsz;obtain⟨A,c,rfl,hc,aR⟩:=ho.form;have aF:pad 128 m=pz m (A4a 128 m.length)++List.replicate 8 0++J3 (8*UInt64.ofNat m.length):=rfl;have aK:=Lib.hid aF;clear aF;generalize hml:m.length=n at *;have hw:IntKind.u64.wrap (n:Int)=C8 (UInt64.ofNat n):=by
  rw[Eb];unfold C8;simp
 have aB:=Lib.hid hml;clear hml;go_wp2_with (at_builtin;refine Hd _ w.heap.size _ m rfl _ _ rfl rfl ho 128 128 rfl rfl (by rw[aB.out];omega) hb.size ?_;intro A2 c2 w2 aG aH aA aC);have aI:=hb.trans aC;rw[←B9z]at aA;clear ho hb aC hc aR;generalize hz:A4a 128 n=z at *;have aL:z=(128-(n+1+16) % 128) % 128:=by rw[←hz];rfl
 have aM:=Lib.hid aL;have aV:z<128:=by omega
 clear hz aL;go_loopw [5] (fun b wr=>∃(j:Nat) (A:Option Addr) (c:Nat),j≤z∧b=.slice A (n+1+j) c∧n+1+j≤c∧c≤9223372036854775807∧I5 wr w.heap.size (.slice A (n+1+j) c) (pz m j)∧Below w.heap.size w wr) (fun b _=>n+1+z-B2f b)
 case atStart=>exact ⟨0,A2,c2,Nat.zero_le _,by simp[aB.out],by simpa [aB.out] using aG,aH,by simpa [Q8,aB.out,pz] using aA,aI⟩
 case round=>
  clear aA aI aG aH;obtain⟨j,A,c,hj,rfl,aG,aH,ho,hb⟩:=hrel;by_cases hlt:j<z
  ·have aN:((n:Int)+1+j+16) % 128≠0:=by have:=aM.out;omega
   go_wp2_with (at_builtin;refine Hd _ w.heap.size _ (pz m j) rfl _ _ rfl rfl ho 0 0 rfl rfl (by rw[Q8,aB.out];omega) hb.size ?_;intro A2 c2 w2 aD aE aA aC);have he:(pz m j++[0]).length=n+1+(j+1):=by rw[←Yq,Q8,aB.out]
   rw[he]at aD aA;rw[←Yq]at aA;go_roundw;case rel=>exact ⟨j+1,A2,c2,by omega,by rw[show (pz m j).length+1=n+1+(j+1) from by rw[Q8,aB.out];omega],aD,aE,aA,hb.trans aC⟩
   case measure=>simp[B2f,Q8,aB.out];omega
  ·obtain rfl:j=z:=by omega
   have aN:((n:Int)+1+j+16) % 128=0:=by have:=aM.out;omega
   go_wp2_with (at_builtin;refine Qr _ w.heap.size _ (pz m j) rfl _ _ rfl rfl ho 8 .i64 rfl (by rw[Q8,aB.out];omega) hb.size ?_;intro A2 c2 w2 aD aE aA aC);have aO:=hb.trans aC;generalize hP:pz m j++List.replicate 8 0=P at *;have aP:P.length=n+1+j+8:=by rw[←hP];simp[Q8,aB.out]
   have HP:=Lib.hid hP;have aJ:=Lib.hid aP;clear hP aP ho hb aC aN hlt aG aH;go_wp2_with fail;go_loopw [5,7] (fun b i wr=>∃(j:Nat) (A:Option Addr) (c:Nat),j≤8∧i=.int .i64 (56-8*(j:Int))∧(b=.slice A (P.length+j) c∧P.length+j≤c∧c≤9223372036854775807∧I5 wr w.heap.size (.slice A (P.length+j) c) (ps P (8*UInt64.ofNat n) j))∧Below w.heap.size w wr) (fun b i _=>(intOf i+8).toNat)
   case atStart=>exact ⟨0,A2,c2,by omega,rfl,⟨by simp[aJ.out,Q8,aB.out],by simpa [aJ.out] using aD,aE,by simpa [aJ.out,ps] using aA⟩,aO⟩
   case round=>
    clear aA aO aD aE;obtain⟨j,A,c,hj,rfl,⟨rfl,aG,aH,ho⟩,hb⟩:=hrel;have aQ:=aJ.out;have aS:P.length+j≤35184372088832:=by omega
    have aW:P.length≤1099511627976:=by omega
    have aX:=Lib.hid aQ;clear aQ;by_cases hlt:j<8
    ·have aT:j=0∨j=1∨j=2∨j=3∨j=4∨j=5∨j=6∨j=7:=by omega
     have hl:=Pv P (8*UInt64.ofNat n) j hj;have aU:(ps P (8*UInt64.ofNat n) j).length≤35184372088832:=by omega
     clear hl aS;rcases aT with rfl | rfl | rfl | rfl | rfl | rfl | rfl | rfl;all_goals
      go_wp2_with (at_builtin;refine Hd _ w.heap.size _ (ps P (8*UInt64.ofNat n) _) rfl _ _ rfl rfl ho _ _ rfl rfl aU hb.size ?_;intro A2 c2 w2 aD aE aA aC);have R:=D1c (by omega) (by simp[J3]) aD aE aA;go_roundw;case rel=>exact ⟨_,A2,c2,by omega,by go_num,R,hb.trans aC⟩
      case measure=>simp[intOf]
    ·obtain rfl:j=8:=by omega
     have e:pad 128 m=ps P (8*UInt64.ofNat n) 8:=by rw[aK.out];rfl
     have he:=Lib.hid e;clear e;go_wp2_with fail;go_ret;exact ⟨_,rfl,by rw[Hm.out,Hid.out he];exact I5.by_ ho,hb⟩
theorem A1e (block:Nat) (hbl:block=64∨block=128) (v:Value) (ls:List (List UInt8)) (w:World) (hp:J9 w w.heap.size v ls) (hsz:ls.flatten.length≤1099511627776) :
 Calls Tryz.prog 162 #[v,.int .i64 block] w fun e w'=>∃u,e=.returned u∧By w' w.heap.size w'.heap.size u (pad block ls.flatten)∧Below w.heap.size w w':=by
 rcases hbl with rfl | rfl
 ·exact C3j v ls w hp hsz
 ·exact B7j v ls w hp hsz
end Go.Proofs.YtdfpoofbgjilgaaGreat
