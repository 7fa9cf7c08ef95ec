/- A part of the proof of DirAnswers. -/
import Derived.WalkKit
import Derived.WalkLawsBesides
import Derived.Lib.Hide
import Derived.Deep.OwnRows
import Derived.Test.YtlegpkdighoflaaGreatPak
set_option linter.unusedVariables false
set_option linter.unusedSimpArgs false
set_option maxRecDepth 100000
set_option maxHeartbeats 40000000
namespace Go.Proofs.YtlegpkdighoflaaGreat
open Go Go.RowKit Sh
namespace Sh
theorem A6t (x:UInt32) (s:Nat) (h0:0<s) (h:s<32):(Fl x (-(s:Int))).toNat=(x.toNat <<< (32-s)) % 2 ^ 32 ||| x.toNat >>> s:=by
 unfold Fl;have e1:(32 + -(s:Int)).toNat=32-s:=by omega
 have e2:(- -(s:Int)).toNat=s:=by omega
 rw[e1,e2,UInt32.toNat_or,UInt32.toNat_shiftLeft,UInt32.toNat_shiftRight,UInt32.toNat_ofNat',UInt32.toNat_ofNat'];have e3:(32-s) % 2 ^ 32 % 32=32-s:=by omega
 have e4:s % 2 ^ 32 % 32=s:=by omega
 rw[e3,e4]
theorem B8o (x:UInt32) (s:Nat) (h0:0<s) (h:s<32) :
 (x.toUInt64 >>> UInt64.ofNat s ||| x.toUInt64 <<< UInt64.ofNat (32-s)) % 4294967296=(Fl x (-(s:Int))).toUInt64:=by
 apply UInt64.toNat_inj.1;have hx:=UInt32.toNat_lt x;rw[UInt32.toNat_toUInt64,A6t x s h0 h,UInt64.toNat_mod,UInt64.toNat_or,UInt64.toNat_shiftLeft,UInt64.toNat_shiftRight,UInt32.toNat_toUInt64,UInt64.toNat_ofNat',UInt64.toNat_ofNat'];have e3:(32-s) % 2 ^ 64 % 64=32-s:=by omega
 have e4:s % 2 ^ 64 % 64=s:=by omega
 rw[e3,e4];show (_ ||| _) % 2 ^ 32=_;rw[Nat.or_mod_two_pow,Nat.mod_mod_of_dvd _ (Nat.pow_dvd_pow 2 (by decide)),Nat.or_comm];congr 1;exact Nat.mod_eq_of_lt (Nat.lt_of_le_of_lt (Nat.shiftRight_le _ _) hx)
theorem C1z (x:UInt64):x % 4294967296=x.toUInt32.toUInt64:=by
 apply UInt64.toNat_inj.1;rw[UInt64.toNat_mod,UInt32.toNat_toUInt64,UInt64.toNat_toUInt32];rfl
theorem A7c (a b:UInt32):a.toUInt64 ^^^ b.toUInt64=(a ^^^ b).toUInt64:=by simp
theorem C2b (a:UInt32) (s:Nat) (h:s<32):a.toUInt64 >>> UInt64.ofNat s=(a >>> UInt32.ofNat s).toUInt64:=by
 apply UInt64.toNat_inj.1;rw[UInt64.toNat_shiftRight,UInt32.toNat_toUInt64,UInt32.toNat_toUInt64,UInt32.toNat_shiftRight,UInt64.toNat_ofNat',UInt32.toNat_ofNat'];congr 1;omega
theorem E8u (e f g:UInt32):e &&& f ||| ~~~e &&& g=e &&& f ^^^ ~~~e &&& g:=by
 apply UInt32.toBitVec_inj.1;simp only[UInt32.toBitVec_or,UInt32.toBitVec_and,UInt32.toBitVec_xor,UInt32.toBitVec_not];ext i hi
 simp only[BitVec.getElem_or,BitVec.getElem_and,BitVec.getElem_xor,BitVec.getElem_not];cases e.toBitVec[i]<;>simp
theorem E2k (a b c:UInt32):a &&& b ||| a &&& c ||| b &&& c=a &&& b ^^^ a &&& c ^^^ b &&& c:=by
 apply UInt32.toBitVec_inj.1;simp only[UInt32.toBitVec_or,UInt32.toBitVec_and,UInt32.toBitVec_xor];ext i hi
 simp only[BitVec.getElem_or,BitVec.getElem_and,BitVec.getElem_xor];cases a.toBitVec[i]<;>cases b.toBitVec[i]<;>cases c.toBitVec[i]<;>rfl
end Sh
@[go_sem ↓ high] theorem E4r (x : UInt64) : Op.intDiv .rem .u64 (J4 x) 4294967296 = pure (.int .u64 (J4 (x % 4294967296))) := by
 unfold Op.intDiv J4;rw[if_neg (by decide),UInt64.toNat_mod];congr 2
@[go_sem ↓ high] theorem B9x (x : UInt64) : Op.intDiv .rem .u64 (J4 x) 256 = pure (.int .u64 (J4 (x % 256))) := by
 unfold Op.intDiv J4;rw[if_neg (by decide),UInt64.toNat_mod];congr 2
@[go_sem ↓ high] theorem D7m (x : UInt64) : Op.intArith .mul .u64 (J4 x) 256 = pure (.int .u64 (J4 (x * 256))) := A7z x 256
@[go_sem ↓ high] theorem E2z (x : UInt64) : Op.intArith .mul .u64 (J4 x) 8 = pure (.int .u64 (J4 (x * 8))) := A7z x 8
@[go_sem ↓ high] theorem B9w (x : UInt64) : Op.intDiv .quo .u64 (J4 x) 256 = pure (.int .u64 (J4 (x / 256))) := by
 have h:=Gq (x.toNat / 256);have hx:=Lz x;have e:Op.intDiv .quo .u64 (J4 x) 256=pure (.int .u64 (IntKind.u64.wrap ((x.toNat / 256:Nat):Int))):=rfl;rw[e,h,Nat.mod_eq_of_lt (by omega)];unfold J4;rw[UInt64.toNat_div];rfl
theorem C4h (x:UInt32) (s:Nat) (h0:0<s) (h:s<32) (w:World) :
 Calls Tryz.prog 145 #[.int .u64 (J4 x.toUInt64),.int .u64 (s:Int),.int .u64 32] w fun e w'=>e=.returned (.int .u64 (J4 (Fl x (-(s:Int))).toUInt64))∧w'=w:=by
 have hs:IntKind.u64.wrap (32-(s:Int))=((32-s:Nat):Int):=(IntWalk.u64_in _ (by omega)).trans (by omega);have h1:s<64:=by omega
 have h2:32-s<64:=by omega
 have ht:=Lib.hid (B8o x s h0 h);generalize x.toUInt64=X at *;go_enter Tryz.func145,Tryz.ntmps145;go_wp2;go_ret;exact ⟨by rw[←ht.out];rfl,rfl⟩
theorem A1e (x:UInt32) (n:Int) (h:0<n∧n<32) (w:World) :
 Calls Tryz.prog 145 #[.int .u64 (J4 x.toUInt64),.int .u64 n,.int .u64 32] w fun e w'=>e=.returned (.int .u64 (J4 (Fl x (-n)).toUInt64))∧w'=w:=by
 obtain⟨s,rfl⟩:=Int.eq_ofNat_of_zero_le (show 0≤n by omega);exact C4h x s (by omega) (by omega) w
theorem D9q (x:UInt64) (w:World) :
 Calls Tryz.prog 120 #[.int .u64 (J4 x),.int .u64 32] w fun e w'=>e=.returned (.int .u64 (J4 x.toUInt32.toUInt64))∧w'=w:=by
 have ht:=Lib.hid (C1z x);go_enter Tryz.func120,Tryz.ntmps120;go_wp2;go_ret;exact ⟨by rw[←ht.out];rfl,rfl⟩
def Rk (x:UInt32) (a b c:Int) (sh:Bool):UInt32:=Fl x (-a) ^^^ Fl x (-b) ^^^ (if sh then x >>> UInt32.ofNat c.toNat else Fl x (-c))
theorem B9d (x:UInt32) (a b c:Int) (ha:0<a∧a<32) (hb:0<b∧b<32) (hc:0<c∧c<32) (w:World) :
 Calls Tryz.prog 121 #[.int .u64 (J4 x.toUInt64),.int .u64 32,.int .u64 a,.int .u64 b,.int .u64 c,.bool true] w fun e w'=>e=.returned (.int .u64 (J4 (Rk x a b c true).toUInt64))∧w'=w:=by
 obtain⟨s,rfl⟩:=Int.eq_ofNat_of_zero_le (show 0≤c by omega);have hs:s<64:=by omega
 go_enter Tryz.func121,Tryz.ntmps121;go_wp2_with fail;refine (A1e x a ha _).mono ?_;rintro e w' ⟨rfl,rfl⟩;go_wp2_with fail;refine (A1e x b hb _).mono ?_;rintro e w' ⟨rfl,rfl⟩;go_wp2_with fail;go_ret;refine ⟨?_,rfl⟩;show Ending.returned (Value.int _ _)=_;rw[C2b x s (by omega),A7c,A7c];rfl
theorem B8x (x:UInt32) (a b c:Int) (ha:0<a∧a<32) (hb:0<b∧b<32) (hc:0<c∧c<32) (w:World) :
 Calls Tryz.prog 121 #[.int .u64 (J4 x.toUInt64),.int .u64 32,.int .u64 a,.int .u64 b,.int .u64 c,.bool false] w fun e w'=>e=.returned (.int .u64 (J4 (Rk x a b c false).toUInt64))∧w'=w:=by
 go_enter Tryz.func121,Tryz.ntmps121;go_wp2_with fail;refine (A1e x a ha _).mono ?_;rintro e w' ⟨rfl,rfl⟩;go_wp2_with fail;refine (A1e x b hb _).mono ?_;rintro e w' ⟨rfl,rfl⟩;go_wp2_with fail;refine (A1e x c hc _).mono ?_;rintro e w' ⟨rfl,rfl⟩;go_wp2_with fail;go_ret;refine ⟨?_,rfl⟩;show Ending.returned (Value.int _ _)=_;rw[A7c,A7c];rfl
theorem Vm (x:UInt32) (a b c:Int) (sh:Bool) (h:(0<a∧a<32)∧(0<b∧b<32)∧(0<c∧c<32)) (w:World) :
 Calls Tryz.prog 121 #[.int .u64 (J4 x.toUInt64),.int .u64 32,.int .u64 a,.int .u64 b,.int .u64 c,.bool sh] w fun e w'=>e=.returned (.int .u64 (J4 (Rk x a b c sh).toUInt64))∧w'=w:=by
 cases sh
 ·exact B8x x a b c h.1 h.2.1 h.2.2 w
 ·exact B9d x a b c h.1 h.2.1 h.2.2 w
theorem Ge {P:Program} {ops:Array Oper} {rest:List Oper} {o:Oper} {a:Act} {w:World} {Q:Exit→Act→World→Prop} (hg:o.guard=none) (t e len:Nat) (parts:Array (Nat×Operand)) (ho:o.op=.buildSlice t len parts)
 (ht:P.underlying t=some (.slice e)) (size:Nat) (z:Value) (hi:(P.info? e).map (fun i=>(i.size,i.zero))=some (size,some z)) (hl:len*size≤16777216) (hp:len*size≠0) (cells:Array Value)
 (hf:Instr.fill (fun i=>some (i*size,size)) ((Array.range (len*size)).map (fun j=>z.cells[j % z.cells.size]!)) (parts.map fun (i,x)=>(i,a.eval x)).toList=some cells)
 (h:wpList P ops Q rest (a.put o.dst (.slice (some ⟨w.heap.size,0,none⟩) len len)) (w.alloc (.cells cells e))):wpList P ops Q (o::rest) a w:=
 wpList_plain hg fun _ hK=>by
  cases hq:P.info? e with
  | none=>simp[hq]at hi
  | some i=>
   simp only[hq,Option.map_some,Option.some.injEq,Prod.mk.injEq]at hi;obtain⟨h1,h2⟩:=hi;have aA:¬ (16777216<len*size):=by omega
   have hr:(Instr.buildSlice t len (parts.map fun (i,x)=>(i,a.eval x))).run P w=.ok (.slice (some ⟨w.heap.size,0,none⟩) len len) (w.alloc (.cells cells e)):=by
    unfold Instr.buildSlice;simp only[Sem.run_bind,run_underlying ht,Result.andThen_ok,sizeOf,typeInfo,Sem.run_pure];simp[hq,h1,aA,hp,zeroValue,typeInfo,h2,newRow];have aB:Instr.fill (fun i=>some (i*size,size)) (Array.map (fun x=>z.cells[x % z.cells.size]!) (Array.range (len*size))) (List.map (fun x=>(x.fst,a.eval x.snd)) parts.toList)=some cells:=by simpa using hf
    rw[aB];rfl
   unfold Oper.wp execOp;simp only[ho,Sem.run_bind,hr,Result.andThen_ok,Sem.run_pure];exact hK _ _ h
theorem A7d:(Tryz.prog.info? 117).map (fun i=>(i.size,i.zero))=some (1,some (.int .u64 0)):=by kernel_rfl
theorem B2a (k:Nat) (hk:k<8) (w:World) :
 Calls Tryz.prog 119 #[.int .i64 (k:Int)] w fun e w'=>e=.returned (.int .u64 (J4 (E9 Z2 k)))∧Below w.heap.size w w':=by
 have aA:Z2.length=8:=by decide +kernel
 have hc:(w.alloc (Obj.cells (C9 Z2).toArray 117)).cell? ⟨w.heap.size,k,none⟩=some (.int .u64 (J4 (E9 Z2 k))):=(Bk.new w _ _).at_ (J6 (by omega));go_enter Tryz.func119,Tryz.ntmps119;go_wp2_with (refine Ge rfl _ 117 _ _ rfl Tryz.underlying197 1 _ A7d (by decide) (by decide) (C9 Z2).toArray (by kernel_rfl) ?_);go_ret;exact ⟨rfl,Aw _ _⟩
theorem C3h (k:Nat) (hk:k<80) (w:World) :
 Calls Tryz.prog 122 #[.int .i64 (k:Int)] w fun e w'=>e=.returned (.int .u64 (J4 (E9 Ce k)))∧Below w.heap.size w w':=by
 have aA:Ce.length=80:=by decide +kernel
 have hc:(w.alloc (Obj.cells (C9 Ce).toArray 117)).cell? ⟨w.heap.size,k,none⟩=some (.int .u64 (J4 (E9 Ce k))):=(Bk.new w _ _).at_ (J6 (by omega));go_enter Tryz.func122,Tryz.ntmps122;go_wp2_with (refine Ge rfl _ 117 _ _ rfl Tryz.underlying197 1 _ A7d (by decide) (by decide) (C9 Ce).toArray (by kernel_rfl) ?_);go_ret;exact ⟨rfl,Aw _ _⟩
namespace Sh
def up (S:List UInt32):List UInt64:=S.map (·.toUInt64)
theorem Gw (S:List UInt32):(up S).length=S.length:=by simp[up]
theorem Wv (S:List UInt32) (k:Nat):E9 (up S) k=(Ad S k).toUInt64:=by
 unfold E9 Ad up;simp only[List.getD_eq_getElem?_getD,List.getElem?_map];cases S[k]?<;>simp
def sd (N:UInt64):Nat→UInt64
 | 0=>N
 | j+1=>sd N j / 256
def lb (N:UInt64):Nat→List UInt8
 | 0=>[]
 | j+1=>(sd N j % 256).toUInt8::lb N j
theorem B7d (N:UInt64) (j:Nat):(lb N j).length=j:=by
 induction j with
 | zero=>rfl
 | succ j ih=>simp[lb,ih]
theorem D0s (x:UInt64):(x % 256).toUInt8=x.toUInt8:=by
 apply UInt8.toNat_inj.1;rw[UInt64.toNat_toUInt8,UInt64.toNat_toUInt8,UInt64.toNat_mod];show x.toNat % 256 % 2 ^ 8=x.toNat % 2 ^ 8;omega
theorem C0v (N:UInt64) (j:Nat):(sd N j).toNat=N.toNat / 256 ^ j:=by
 induction j with
 | zero=>simp[sd]
 | succ j ih=>
  unfold sd;rw[UInt64.toNat_div,ih,Nat.pow_succ,←Nat.div_div_eq_div_mul];rfl
theorem Tl (N:UInt64) (j:Nat) (h:j<8):(sd N j).toUInt8=(N >>> UInt64.ofNat (8*j)).toUInt8:=by
 apply UInt8.toNat_inj.1;rw[UInt64.toNat_toUInt8,UInt64.toNat_toUInt8,C0v,UInt64.toNat_shiftRight,UInt64.toNat_ofNat',Nat.shiftRight_eq_div_pow];have e:8*j % 2 ^ 64 % 64=8*j:=by omega
 rw[e,Nat.pow_mul]
theorem C3l (N:UInt64):lb N 8=U0 N:=by
 simp only[lb,D0s];rw[Tl N 7 (by omega),Tl N 6 (by omega),Tl N 5 (by omega),Tl N 4 (by omega),Tl N 3 (by omega),Tl N 2 (by omega),Tl N 1 (by omega)];rfl
def fl (L:Nat) (N:UInt64) (r:Nat):List UInt8:=List.replicate r 0++lb N (L-r)
theorem Rx (L:Nat) (N:UInt64) (r:Nat) (h:r≤L):(fl L N r).length=L:=by simp[fl,B7d];omega
theorem D2x (L:Nat) (N:UInt64) (r:Nat) (h0:0<r) (h:r≤L):(fl L N r).set (r-1) (sd N (L-r) % 256).toUInt8=fl L N (r-1):=by
 obtain⟨s,rfl⟩:∃s,r=s+1:=⟨r-1,by omega⟩;unfold fl;rw[Nat.add_sub_cancel];have e:L-s=L-(s+1)+1:=by omega
 rw[e];show _=List.replicate s 0++((sd N (L-(s+1)) % 256).toUInt8::lb N (L-(s+1)));rw[List.replicate_succ',List.append_assoc,List.set_append_right _ _ (by simp)];simp
def pw (s:Nat) (q:List UInt8) (t:Nat):Nat→UInt64
 | 0=>0
 | j+1=>pw s q t j*256+(g8 q (s*t+j)).toUInt64
theorem E8p (q:List UInt8) (t:Nat):pw 4 q t 4=(Oq q t).toUInt64:=by
 simp only[pw,Oq,Nat.add_zero];generalize g8 q (4*t)=a;generalize g8 q (4*t+1)=b;generalize g8 q (4*t+2)=c;generalize g8 q (4*t+3)=d;have ha:=UInt8.toNat_lt a;have hb:=UInt8.toNat_lt b;have hc:=UInt8.toNat_lt c;have hd:=UInt8.toNat_lt d;apply UInt64.toNat_inj.1;simp only[UInt64.toNat_add,UInt64.toNat_mul,UInt32.toNat_toUInt64,UInt32.toNat_or,UInt32.toNat_shiftLeft,UInt8.toNat_toUInt32,UInt8.toNat_toUInt64];show ((((0*256 % 2 ^ 64+a.toNat) % 2 ^ 64*256 % 2 ^ 64+b.toNat) % 2 ^ 64*256 % 2 ^ 64+c.toNat) % 2 ^ 64*256 % 2 ^ 64+d.toNat) % 2 ^ 64=a.toNat <<< 24 % 2 ^ 32 ||| b.toNat <<< 16 % 2 ^ 32 ||| c.toNat <<< 8 % 2 ^ 32 ||| d.toNat;simp only[Nat.shiftLeft_eq];rw[Nat.mod_eq_of_lt (show a.toNat*2 ^ 24<2 ^ 32 by omega),Nat.mod_eq_of_lt (show b.toNat*2 ^ 16<2 ^ 32 by omega),Nat.mod_eq_of_lt (show c.toNat*2 ^ 8<2 ^ 32 by omega)];rw[show a.toNat*2 ^ 24=2 ^ 24*a.toNat by omega,←Nat.two_pow_add_eq_or_of_lt (show b.toNat*2 ^ 16<2 ^ 24 by omega)];rw[show 2 ^ 24*a.toNat+b.toNat*2 ^ 16=2 ^ 16*(2 ^ 8*a.toNat+b.toNat) by omega,←Nat.two_pow_add_eq_or_of_lt (show c.toNat*2 ^ 8<2 ^ 16 by omega)];rw[show 2 ^ 16*(2 ^ 8*a.toNat+b.toNat)+c.toNat*2 ^ 8=2 ^ 8*(2 ^ 16*a.toNat+2 ^ 8*b.toNat+c.toNat) by omega,←Nat.two_pow_add_eq_or_of_lt (show d.toNat<2 ^ 8 by omega)];omega
end Sh
section
theorem P9.empty (w:World) (base:Nat) (hb:base≤w.heap.size):P9 (w.alloc (.cells #[] 5)) base (.slice (some ⟨w.heap.size,0,none⟩) 0 0) []:=
 ⟨rfl,.inr ⟨w.heap.size,0,#[],rfl,hb,heap_alloc_new w _,Nat.le_refl _,by simp[maxLen],rfl,rfl⟩⟩
theorem By.alloc {w:World} {lo B:Nat} {v:Value} {l:List UInt8} (h:By w lo B v l) (hB:B≤w.heap.size) (o:Obj):By (w.alloc o) lo B v l:=h.below ((Aw _ _).mono hB)
theorem Bk.by8 {w:World} {g:Nat} {l:List UInt8} (h:Bk w g 5 (c8 l)) (n:Nat) (hn:n=l.length) (hl:l.length≤1000000):By w 0 w.heap.size (.slice (some ⟨g,0,none⟩) n n) l:=by
 subst hn;refine By.mk_ (Nat.le_refl _) (by simp only[maxLen];omega) (.inr ⟨g,0,rfl,Nat.zero_le _,h.lt,fun j u hj=>?_⟩);rw[Nat.zero_add];exact h.at_ hj
theorem B7f {W w:World} {g:Nat} (h:W.grownBy w (some g)) (i:Nat) (u:Value):W.grownBy (w.setCell ⟨g,i,none⟩ u) (some g):=
 ⟨h.os,h.tape,h.output,by simpa using h.size,fun k hk hne=>(Below.heap_setCell w _ u k (by intro e;exact hne (by rw[e]))).trans (h.block k hk hne)⟩
theorem C8g (L:Nat) (N:UInt64):fl L N L=z8 L:=by simp[fl,lb,z8]
theorem C5x:(Tryz.prog.info? 60).map (fun i=>(i.size,i.zero))=some (1,some (.int .u64 0)):=by kernel_rfl
theorem A9n:(Tryz.prog.info? 117).map (fun i=>(i.zero,i.size,i.bytes))=some (some (.int .u64 0),1,8):=by kernel_rfl
theorem E2r (n:Nat):madeCells #[.int .u8 0] n=(c8 (z8 n)).toArray:=by
 apply Array.ext';simp only[madeCells,c8,z8];apply List.ext_getElem
 ·simp
 ·intro i h1 h2;simp at h1;have e:v8 0=.int .u8 0:=rfl;simp[Nat.mod_one,e]
theorem D5j (n:Nat):madeCells #[.int .u64 0] n=(C9 (J2 n)).toArray:=by
 apply Array.ext';simp only[madeCells,C9,J2];apply List.ext_getElem
 ·simp
 ·intro i h1 h2;simp at h1;have e:Vz 0=.int .u64 0:=rfl;simp[Nat.mod_one,e]
section
variable {ops : Array Oper} {rest : List Oper} {o : Oper} {a : Act} {w : World} {Q : Exit → Act → World → Prop}
theorem Vc (hg:o.guard=none) (l c:Operand) (hop:o.op=.makeSlice 45 l c) (n:Nat) (kl kc:IntKind) (hl:a.eval l=.int kl (n:Int)) (hc:a.eval c=.int kc (n:Int)) (hn:n≤1000000)
 (hK:wpList Tryz.prog ops Q rest (a.put o.dst (.slice (some ⟨w.heap.size,0,none⟩) n n)) (w.alloc (.cells (c8 (z8 n)).toArray 5))):wpList Tryz.prog ops Q (o::rest) a w:=by
 obtain⟨i,hi,hz⟩:=Option.map_eq_some_iff.1 A4s;simp only[Prod.mk.injEq]at hz;refine wpList_make_row w hg l c _ hop _ i _ Tryz.underlying45 hi hz.1 hz.2.1 rfl kl kc n hl hc (by rw[hz.2.2];omega) (by omega) ?_;rw[E2r];exact hK
theorem Nf (hg:o.guard=none) (l c:Operand) (hop:o.op=.makeSlice 197 l c) (n:Nat) (kl kc:IntKind) (hl:a.eval l=.int kl (n:Int)) (hc:a.eval c=.int kc (n:Int)) (hn:n≤1000000)
 (hK:wpList Tryz.prog ops Q rest (a.put o.dst (.slice (some ⟨w.heap.size,0,none⟩) n n)) (w.alloc (.cells (C9 (J2 n)).toArray 117))):wpList Tryz.prog ops Q (o::rest) a w:=by
 obtain⟨i,hi,hz⟩:=Option.map_eq_some_iff.1 A9n;simp only[Prod.mk.injEq]at hz;refine wpList_make_row w hg l c _ hop _ i _ Tryz.underlying197 hi hz.1 hz.2.1 rfl kl kc n hl hc (by rw[hz.2.2];omega) (by omega) ?_;rw[D5j];exact hK
theorem E1c (hgd:o.guard=none) (s x:Operand) (ho:o.op=.call { callee:=.builtin .append,args:=#[s,x],argTypes:=#[197,197] })
 (hs:a.eval s=.slice (some ⟨w.heap.size,0,none⟩) 0 0) (g n c:Nat) (m:List UInt64) (hx:a.eval x=.slice (some ⟨g,0,none⟩) n c) (hn:n=m.length) (hm:Bk w g 117 (C9 m)) (hsz:m.length≤1000000)
 (h:∀v w',Sl w' w.heap.size w'.heap.size v (C9 m)→Below w.heap.size w w'→w.heap.size<w'.heap.size→wpList Tryz.prog ops Q rest (a.put o.dst v) w'):wpList Tryz.prog ops Q (o::rest) a (w.alloc (.cells #[] 117)):=
 wpList_plain hgd fun _ hK=>by
  obtain⟨i0,aD,aE,aF,aG⟩:=info_parts A9n;have aA:(w.alloc (.cells #[] 117)).ownsRow w.heap.size 117 1 (.slice (some ⟨w.heap.size,0,none⟩) 0 0) 0 []:=
   ⟨rfl,.inr ⟨w.heap.size,0,#[],rfl,Nat.le_refl _,heap_alloc_new w _,Nat.le_refl _,by simp[maxLen],rfl,rfl⟩⟩
  have aB:∀u∈C9 m,u.oneCell'=true:=by intro u hu;obtain⟨x,_,rfl⟩:=List.mem_map.1 hu;rfl
  have aH:=hm.alloc (.cells #[] 117);obtain⟨v',w',hr,h6,h7,_,_⟩:=run_append_own_at (P:=Tryz.prog) (w.alloc (.cells #[] 117)) w.heap.size 197 o.type 117 i0 (.int .u64 0) 1 8 Tryz.underlying197 aD aE aF aG rfl (by decide) _ 0 [] aA ⟨g,0,none⟩ n c (C9 m) (by simp[hn])
   (fun j u hj=>by rw[Am,Nat.zero_add];exact aH.at_ hj) aB (by simp only[maxLen];omega) (by omega) (by simp)
  unfold Oper.wp execOp;simp only[ho,resolve,invoke,builtin,Sem.run_bind,Sem.run_pure,Result.andThen_ok,List.map_toArray,List.map_cons,List.map_nil,hs,hx,hr];have aC:=h7.size;simp at aC;refine hK _ _ (h v' w' ?_ ((Aw _ _).grown h7 (by simp) fun k hk=>?_) (by omega))
  ·have:=Sl.of_own h6;simpa using this
  ·simp[Value.ownBlock]at hk;omega
end
end
section
namespace Sh
def low (x:UInt64):UInt64:=x.toUInt32.toUInt64
theorem C9j (x:UInt64):low x=x.toUInt32.toUInt64:=rfl
theorem D4k (x:UInt64):(low x).toUInt32=x.toUInt32:=by unfold low;exact UInt32.toUInt32_toUInt64 _
theorem B7a (y m x l:UInt32):low ((Rk y 17 19 10 true).toUInt64+m.toUInt64+(Rk x 7 18 3 true).toUInt64+l.toUInt64)=(Xi y m x l).toUInt64:=by
 unfold low;congr 1;simp only[UInt64.toUInt32_add,UInt32.toUInt32_toUInt64];rfl
def B8r (V:List UInt32) (k:Nat) (m:UInt32):UInt64:=
 (Ad V 7).toUInt64+(Rk (Ad V 4) 6 11 25 false).toUInt64+((Ad V 4).toUInt64 &&& (Ad V 5).toUInt64 ||| low (~~~(Ad V 4).toUInt64) &&& (Ad V 6).toUInt64)+E9 Ce k >>> 32+m.toUInt64
def C7s (V:List UInt32):UInt64:=
 (Rk (Ad V 0) 2 13 22 false).toUInt64+((Ad V 0).toUInt64 &&& (Ad V 1).toUInt64 ||| (Ad V 0).toUInt64 &&& (Ad V 2).toUInt64 ||| (Ad V 1).toUInt64 &&& (Ad V 2).toUInt64)
theorem C2p (V:List UInt32) (k:Nat) (m:UInt32):(B8r V k m).toUInt32=C8c V (K32 k) m:=by
 unfold B8r C8c K32;simp only[UInt64.toUInt32_add,UInt32.toUInt32_toUInt64,UInt64.toUInt32_or,UInt64.toUInt32_and,D4k,UInt64.toUInt32_not];rw[E8u];rfl
theorem C1k (V:List UInt32):(C7s V).toUInt32=D4s V:=by
 unfold C7s D4s;simp only[UInt64.toUInt32_add,UInt32.toUInt32_toUInt64,UInt64.toUInt32_or,UInt64.toUInt32_and];rw[E2k];rfl
theorem B4q (V:List UInt32) (k:Nat) (m:UInt32):up (Si V (K32 k) m) =
 [low (B8r V k m+C7s V),(Ad V 0).toUInt64,(Ad V 1).toUInt64,(Ad V 2).toUInt64,low ((Ad V 3).toUInt64+B8r V k m),(Ad V 4).toUInt64,(Ad V 5).toUInt64,(Ad V 6).toUInt64]:=by
 simp only[C9j,UInt64.toUInt32_add,C2p,C1k,UInt32.toUInt32_toUInt64];rfl
def xs (L:Nat) (X:List UInt64):List UInt64:=X++J2 (L-X.length)
theorem Wb (L:Nat) (X:List UInt64) (h:X.length≤L):(xs L X).length=L:=by simp[xs];omega
theorem B3p (L:Nat) (X:List UInt64) (t:Nat) (x:UInt64) (ht:X.length=t) (h:t<L):(xs L X).set t x=xs L (X++[x]):=by
 subst ht;unfold xs J2;obtain⟨d,hd⟩:∃d,L-X.length=d+1:=⟨L-X.length-1,by omega⟩;rw[hd,List.length_append,List.length_singleton,show L-(X.length+1)=d by omega,List.set_append_right _ _ (Nat.le_refl _),Nat.sub_self,List.replicate_succ];simp
theorem C7t (L:Nat) (X:List UInt64) (t:Nat) (ht:X.length=t) (h:t<L):(xs L X).set t 0=xs L X:=by
 rw[B3p L X t 0 ht h];unfold xs J2;obtain⟨d,hd⟩:∃d,L-X.length=d+1:=⟨L-X.length-1,by omega⟩;rw[hd,List.length_append,List.length_singleton,show L-(X.length+1)=d by omega,List.replicate_succ];simp
theorem D3c (L:Nat) (X:List UInt64) (i:Nat) (h:i<X.length):E9 (xs L X) i=E9 X i:=by
 unfold E9 xs;rw[List.getD_eq_getElem?_getD,List.getD_eq_getElem?_getD,List.getElem?_append_left h]
theorem C8u (L:Nat) (X:List UInt64) (h:X.length=L):xs L X=X:=by simp[xs,h,J2]
theorem D0h (q:List UInt8) (t:Nat) (h:t<16):up (Lh q (t+1))=up (Lh q t)++[pw 4 q t 4]:=by
 rw[E8p];show up (Lh q t++[if t<16 then Oq q t else _])=_;rw[if_pos h];simp[up]
theorem C3n (q:List UInt8) (t:Nat) (h:16≤t):up (Lh q (t+1))=up (Lh q t)++[low ((Rk (Ad (Lh q t) (t-2)) 17 19 10 true).toUInt64+(Ad (Lh q t) (t-7)).toUInt64+(Rk (Ad (Lh q t) (t-15)) 7 18 3 true).toUInt64+(Ad (Lh q t) (t-16)).toUInt64)]:=by
 rw[B7a];show up (Lh q t++[if t<16 then Oq q t else Xi _ _ _ _])=_;rw[if_neg (by omega)];simp[up]
theorem C3e (S V:List UInt32) (hS:S.length=8) (hV:V.length=8) (k:Nat) (hk:k<8) :
 ((up (add32 S V)).take k++(up S).drop k).set k (low ((Ad S k).toUInt64+(Ad V k).toUInt64))=(up (add32 S V)).take (k+1)++(up S).drop (k+1):=by
 refine Kc _ _ _ _ (by simp[up,add32,hS,hV]) (by simp[up,add32,hS,hV];omega) ?_;unfold up;rw[List.getElem?_map,A9k S V hS hV k hk,Option.map_some];unfold low;congr 2;simp
def A0y:List UInt64:=Z2.map fun (r:UInt64)=>r >>> 32
theorem C7h:A0y=up (Z2.map fun (r:UInt64)=>(r >>> 32).toUInt32):=by decide +kernel
theorem C2w (k:Nat) (hk:k<8):(A0y.take k++(J2 8).drop k).set k (E9 Z2 k >>> 32)=A0y.take (k+1)++(J2 8).drop (k+1):=by
 have hl:Z2.length=8:=by decide +kernel
 refine Kc _ _ _ _ (by simp[A0y,hl]) (by simp[A0y,hl];omega) ?_;unfold A0y E9;rw[List.getElem?_map,List.getElem?_eq_getElem (by omega)];simp[hl,hk]
end Sh
open Go Go.RowKit Sh
theorem Qg (x:UInt64) (w:World) :
 Calls Tryz.prog 120 #[.int .u64 (J4 x),.int .u64 32] w fun e w'=>e=.returned (.int .u64 (J4 (low x)))∧w'=w:=D9q x w
end
section
def V8 (w:World) (lo:Nat) (v:Value) (V:List UInt64):Prop:=∃c g o,v=.slice (some ⟨g,o,none⟩) 8 c∧8≤c∧c≤9223372036854775807∧lo≤g∧g<w.heap.size∧∀j,j<8→w.cell? ⟨g,o+j,none⟩=some (.int .u64 (J4 (E9 V j)))
section
variable {w w' : World} {lo : Nat} {v : Value} {V : List UInt64}
theorem V8.of_sl (h:Sl w lo w.heap.size v (C9 V)) (hV:V.length=8):V8 w lo v V:=by
 obtain⟨A,c,h1,h2,h3,h4⟩:=h;have hl:(C9 V).length=8:=by simp[C9,hV]
 rw[hl]at h1 h2;obtain⟨g,o,rfl,aA,hg,hc⟩:=h4.some (by omega);exact ⟨c,g,o,h1,h2,by unfold maxLen at h3;exact h3,aA,hg,fun j hj=>hc j _ (J6 (by omega))⟩
theorem V8.drewN (h:V8 w lo v V) (n:Nat):V8 (w.drewN n) lo v V:=h
theorem V8.less {lo':Nat} (h:V8 w lo v V) (hl:lo'≤lo):V8 w lo' v V:=by
 obtain⟨c,g,o,h1,h2,h3,h4,h5,h6⟩:=h;exact ⟨c,g,o,h1,h2,h3,by omega,h5,h6⟩
theorem V8.far (h:V8 w lo v V) {p:Addr} (hp:p.block<lo) (u:Value):V8 (w.setCell p u) lo v V:=by
 obtain⟨c,g,o,h1,h2,h3,h4,h5,h6⟩:=h;exact ⟨c,g,o,h1,h2,h3,h4,by simpa using h5,fun j hj=>(World.cell?_of_block (Below.heap_setCell w p u g (by omega))).trans (h6 j hj)⟩
theorem V8.new (W:World) (V:List UInt64) (hV:V.length=8):V8 (W.alloc (.cells (C9 V).toArray 117)) W.heap.size (.slice (some ⟨W.heap.size,0,none⟩) 8 8) V:=
 ⟨8,W.heap.size,0,rfl,Nat.le_refl _,by omega,Nat.le_refl _,by simp,fun j hj=>(Bk.new W 117 (C9 V)).at_ (by rw[Nat.zero_add];exact J6 (by omega))⟩
end
theorem B4s (S:List UInt32) (k j:Nat) (hk:k<S.length) (hj:j<4) (x:UInt8) (hx:(Ow (Ad S k))[j]?=some x):(Ds S).take (4*k+j)++[x]=(Ds S).take (4*k+(j+1)):=by
 rw[show 4*k+(j+1)=(4*k+j)+1 by omega,List.take_add_one,A8b S k j hk hj,hx];rfl
theorem C0x (x:UInt32) (s:Nat) (hs:s<32):(x.toUInt64 >>> UInt64.ofNat s).toUInt8=(x >>> UInt32.ofNat s).toUInt8:=by
 rw[C2b x s hs];generalize x >>> UInt32.ofNat s=y;simp
def sh8 (x:UInt64) (s:Nat):UInt64:=x >>> UInt64.ofNat (8*s)
@[go_sem ↓ high] theorem D3y (x : UInt64) (k : IntKind) (s : Nat) (hs : s < 8) : Op.shift .shr .u64 (J4 x) k (8 * (s : Int)) = pure (.int .u64 (J4 (sh8 x s))) := by
 have e:(8:Int)*(s:Int)=((8*s:Nat):Int):=by omega
 rw[e];exact Di x k (8*s) (by omega)
theorem B8v (x:UInt32) (s:Nat) (hs:s<4):(Ow x)[3-s]?=some (sh8 x.toUInt64 s).toUInt8:=by
 unfold sh8;rw[C0x x (8*s) (by omega)];have h:s=0∨s=1∨s=2∨s=3:=by omega
 rcases h with rfl | rfl | rfl | rfl
 ·show some x.toUInt8=some (x >>> 0).toUInt8;simp
 ·rfl
 ·rfl
 ·rfl
theorem C8z (A B:List UInt64) (k:Nat) (hk:k<A.length):E9 (A.take k++B.drop k) k=E9 B k:=B0o A B k hk
end
def Mx:Code→List Code
 | .loop c=>.loop c::Mx c
 | .seq a b=>Mx a++Mx b
 | .block _ c=>Mx c
 | .scope c=>Mx c
 | .cond _ a b=>Mx a++Mx b
 | _=>[]
noncomputable def Sc (k:Nat):Code:=(Tryz.f87.body.bind fun c=>(Mx c)[k]?).getD .skip
def A3a:List Value:=[.int .u64 2,.int .u64 13,.int .u64 22,.int .u64 6,.int .u64 11,.int .u64 25,.int .u64 7,.int .u64 18,.int .u64 3,.int .u64 17,.int .u64 19,.int .u64 10]
theorem A4n (b:List UInt8) (n m g:Nat) (t:TypeId) (hb:b.length=n) (hn:n=8*m) (hm:m≤8) (w:World) (K:Bk w g t (c8 b)):Calls Tryz.prog 144 #[.slice (some ⟨g,0,none⟩) n n] w fun e w'=>∃p,e=.returned (.slice (some ⟨p,0,none⟩) m m)∧Bk w' p 117 (C9 (wl b m n))∧w.heap.size≤p∧Below w.heap.size w w':=by
 have hd:(n:Int) / 8=(m:Int):=by omega
 obtain⟨W0,aA⟩:=F9 (w.alloc (Obj.cells (C9 (J2 m)).toArray 117));have D0:=KN' aA;have K0:=Ac aA K;have B0:=BA' aA;have hg:=K.lt;go_enter Tryz.func144,Tryz.ntmps144;go_wp2_with (refine Nf rfl _ _ rfl m _ _ rfl rfl (by omega) ?_);rw[←aA];clear aA K;go_wp2_with fail;go_loopw [12] (fun x wr=>∃i:Nat,i≤n∧x=.int .i64 (i:Int)∧Bk wr g t (c8 b)∧Bk wr w.heap.size 117 (C9 (wl b m i))∧Below w.heap.size w wr) (fun x _=>n-(intOf x).toNat)
 case atStart=>exact ⟨0,by omega,rfl,K0,D0,B0⟩
 case round=>
  clear K0 D0 B0;obtain⟨i,hi,rfl,K,D,B⟩:=hrel;by_cases hlt:i<n
  ·have aD:(i:Int) / 8=((i / 8:Nat):Int):=by omega
   have aE:(i:Int) % 8=((i % 8:Nat):Int):=by omega
   have hx:wl b m (i+1)=(wl b m i).set (i / 8) (E9 (wl b m i) (i / 8) ||| (g8 b i).toUInt64 <<< UInt64.ofNat (8*(i % 8))):=rfl;have k0:=K.at_ (Eb (l:=b) (i:=i) (by omega));have d0:=D.at_ (J6 (l:=wl b m i) (i:=i / 8) (by simp;omega));have f0:=D.frozen (i / 8);have aF:i / 8<m:=by omega
   have aG:i % 8<8:=by omega
   have D3:=D.set_ (i / 8) (.int .u64 (J4 (E9 (wl b m i) (i / 8) ||| (g8 b i).toUInt64 <<< UInt64.ofNat (8*(i % 8)))));rw[Af,←hx]at D3;have HX:=Lib.hid hx;clear hx;generalize i / 8=qq at *;generalize i % 8=rr at *;obtain⟨ss,aB⟩:=F9 (8*rr);have h8:8*(rr:Int)=(ss:Int):=by omega
   have aC:ss<64:=by omega
   rw[←aB]at D3;clear HX aB;go_wp2_with fail;go_roundw;case rel=>exact ⟨i+1,by omega,by go_num,K.far (by show g≠w.heap.size;omega) _,D3,B.setCell (by simp) _⟩
   case measure=>simp[intOf];omega
  ·obtain rfl:i=n:=by omega
   go_wp2_with fail;go_ret;exact ⟨_,rfl,D,Nat.le_refl _,B⟩
@[go_sem ↓ high] theorem E4z (x : UInt64) (k : IntKind) : Op.shift .shl .u64 (J4 x) k 1 = pure (.int .u64 (J4 (x <<< 1))) := Dd x k 1 (by decide)
def shC (r:List UInt64) (c:UInt64):Nat→UInt64
 | 0=>c
 | j+1=>E9 r j >>> (63:UInt64)
def shW (r:List UInt64) (c:UInt64) (j:Nat):UInt64:=E9 r j <<< (1:UInt64) ||| shC r c j
def C2i (r:List UInt64) (c:UInt64):List UInt64:=Et (shW r c) (E9 r) 4 4
@[simp, go_sem] theorem A9i (r : List UInt64) (c : UInt64) : (C2i r c).length = 4 := Qv _ _ _ _
def Pg (r:List UInt64) (x:UInt64):Nat→List UInt64
 | 0=>r
 | m+1=>Bs (C2i (Pg r x m) (x >>> UInt64.ofNat (63-m) &&& 1))
theorem Sx {r:List UInt64} (hr:r.length=4) (x:UInt64):∀m,(Pg r x m).length=4
 | 0=>hr
 | m+1=>Gl (A9i _ _)
def Zx (ws:List UInt64):Nat→List UInt64
 | 0=>J2 4
 | m+1=>Pg (Zx ws m) (E9 ws (ws.length-1-m)) 64
theorem Pb (ws:List UInt64):∀m,(Zx ws m).length=4
 | 0=>by simp[Zx]
 | m+1=>Sx (Pb ws m) _ _
def Qx (ws:List UInt64):List UInt64:=Zx ws ws.length
theorem It (ws:List UInt64):(Qx ws).length=4:=Pb _ _
theorem A4v (ws:List UInt64) (n g:Nat) (t:TypeId) (hn:ws.length=n) (hn8:n≤8) (w:World) (K:Bk w g t (C9 ws)):Calls Tryz.prog 139 #[.slice (some ⟨g,0,none⟩) n n] w fun e w'=>e=.returned (H9 (Qx ws))∧Below w.heap.size w w':=by
 obtain⟨W0,aD⟩:=F9 ((w.alloc (Obj.cells (C9 (J2 4)).toArray 184)).alloc (Obj.cells (C9 (J2 4)).toArray 182));have hL:W0=M9 w [(184,C9 (J2 4)),(182,C9 (J2 4))]:=aD;have B0:=Ki hL;have R0:=Ko hL rfl;have D0:=Ig 1 hL rfl;have K0:=K.bl B0;have hg:=K.lt;clear hL K;go_enter Tryz.func139,Tryz.ntmps139;go_wp2_with fail;rw[←aD];clear aD;go_loopw [4] (fun x wr=>∃m:Nat,m≤n∧x=.int .i64 ((n:Int)-1-(m:Int))∧Bk wr g t (C9 ws)∧Bk wr (w.heap.size+1) 182 (C9 (Zx ws m))∧Bk wr w.heap.size 184 (C9 (J2 4))∧Below w.heap.size w wr) (fun x _=>(intOf x+1).toNat)
 case atStart=>exact ⟨0,by omega,by simp,K0,D0,R0,B0⟩
 case round=>
  clear K0 D0 R0 B0;obtain⟨m,hm,rfl,K,D,R,B⟩:=hrel;by_cases hlt:m<n
  ·obtain⟨q,hq⟩:=F9 (n-1-m);have aE:(n:Int)-1-(m:Int)=(q:Int):=by omega
   have aL:q<ws.length:=by omega
   rw[aE];obtain⟨r0,aB⟩:=F9 (Zx ws m);have aF:r0.length=4:=by rw[aB];exact Pb ws m
   obtain⟨x,hx⟩:=F9 (E9 ws q);have HN:Hid (Zx ws (m+1)=Pg r0 x 64):=Lib.hid (by rw[aB,hx,hq,←hn];rfl);rw[←aB]at D;have aM:=Lib.hid hx;clear aB hx;have D0:Bk wr (w.heap.size+1) 182 (C9 (Pg r0 x 0)):=D;have e2:(q:Int)=(n:Int)-1-(m:Int):=aE.symm;have E2:=Lib.hid e2;clear aE e2 D hq;go_wp2_with fail;go_loopw [5] (fun y wr=>∃k:Nat,k≤64∧y=.int .i64 (63-(k:Int))∧Bk wr g t (C9 ws)∧Bk wr (w.heap.size+1) 182 (C9 (Pg r0 x k))∧Bk wr w.heap.size 184 (C9 (J2 4))∧Below w.heap.size w wr) (fun y _=>(intOf y+1).toNat)
   case atStart=>exact ⟨0,by omega,rfl,K,D0,R,B⟩
   case round=>
    clear K D0 R B;obtain⟨k,hk,rfl,K,D,R,B⟩:=hrel;by_cases hlk:k<64
    ·obtain⟨s,hs⟩:=F9 (63-k);have es:63-(k:Int)=(s:Int):=by omega
     have aN:s<64:=by omega
     rw[es];obtain⟨r,hr⟩:=F9 (Pg r0 x k);have aO:r.length=4:=by rw[hr];exact Sx aF x k
     obtain⟨c0,aG⟩:=F9 (x >>> UInt64.ofNat s &&& 1);have HB:Hid (Pg r0 x (k+1)=Bs (C2i r c0)):=Lib.hid (by rw[hr,aG,hs];rfl);have ES:=Lib.hid es;rw[←hr]at D;have k0:=K.at_ (J6 (l:=ws) (i:=q) aL);rw[←aM.out]at k0;clear hr hs es;rw[←Nz (f:=shW r c0) aO]at D;go_wp2_with fail;rw[←aG];clear k0 aG;go_loopw [27,6] (fun z c wr=>∃j:Nat,j≤4∧z=.int .i64 (j:Int)∧c=.int .u64 (J4 (shC r c0 j))∧Bk wr g t (C9 ws)∧Bk wr (w.heap.size+1) 182 (C9 (Et (shW r c0) (E9 r) 4 j))∧Bk wr w.heap.size 184 (C9 (J2 4))∧Below w.heap.size w wr) (fun z _ _=>4-(intOf z).toNat)
     case atStart=>exact ⟨0,by omega,rfl,rfl,K,D,R,B⟩
     case round=>
      clear K D R B;obtain⟨j,hj,rfl,rfl,K,D,R,B⟩:=hrel;by_cases hlj:j<4
      ·have d0:=D.at_ (J6 (l:=Et (shW r c0) (E9 r) 4 j) (i:=j) (by simpa using hlj));rw[He hlj,if_neg (by omega)]at d0;have f0:=D.frozen j;have D3:=D.set_ j (.int .u64 (J4 (E9 r j <<< (1:UInt64) ||| shC r c0 j)));rw[Af,Js (f:=shW r c0) (g:=E9 r) (x:=E9 r j <<< (1:UInt64) ||| shC r c0 j) hlj rfl]at D3;go_wp2_with fail;refine A2l 12 (fun W=>W.cell? ⟨w.heap.size+1,j,none⟩=some (.int .u64 (J4 (E9 r j)))) (by kernel_rfl) ?_;refine Nt (A:=?A1) [0,1,2,7,8] (by kernel_rfl) (by kernel_rfl) rfl (by kernel_rfl) (by kernel_rfl) (by kernel_rfl) (fun _=>d0) (h:=fun W=>?h1) (hr:=?r1);case h1=>exact Ei
       refine A1l (A:=?A2) [3,9] (by kernel_rfl) (by kernel_rfl) rfl (by kernel_rfl) (by kernel_rfl) (by kernel_rfl) d0 (h:=fun W hW=>?h2) (hr:=?r2);case h2=>
        simp only[List.append_eq,AC',Dh,Ul];repeat (go_big_quiet_step (fail))
        refine wpQuiet_nil ?_;rfl
       refine Nt (A:=?A4) [4,5,6,10,11] (by kernel_rfl) (by kernel_rfl) rfl (by kernel_rfl) (by kernel_rfl) (by kernel_rfl) (fun _=>d0) (h:=fun W=>?h4) (hr:=?r4);case h4=>
        simp only[List.append_eq,AC',Dh,Ul];repeat (go_big_quiet_step (fail))
        refine wpQuiet_nil ?_;rfl
       refine A1v (by kernel_rfl) (by rfl) (by rfl) (fun Q' hQ'=>?_);dsimp only[F0];go_wp2_with fail;refine Nt (A:=?A3) [13] (by kernel_rfl) (by kernel_rfl) rfl (by kernel_rfl) (by kernel_rfl) (by kernel_rfl) (fun h=>absurd h (by decide)) (h:=fun W=>?h3) (hr:=?r3);case h3=>
        simp only[List.append_eq,AC',Dh,Ul];repeat (go_big_quiet_step (fail))
        refine wpQuiet_nil ?_;rfl
       refine A8h (by kernel_rfl) ?_;go_wp2_with fail;go_roundw;case rel=>exact ⟨j+1,by omega,by go_num,rfl,K.drew.far (by show g≠w.heap.size+1;omega) _,D3,R.drew.far (by show w.heap.size≠w.heap.size+1;omega) _,(B.trans (Below.refl _ _).drew).setCell (by simp) _⟩
       case measure=>simp[intOf];omega
      ·obtain rfl:j=4:=by omega
       have e4:((4:Nat):Int)=4:=rfl;rw[e4];clear e4;have hD:Bk wr (w.heap.size+1) 182 (C9 (C2i r c0)):=D;obtain⟨y,hy⟩:=F9 (C2i r c0);have aA:y.length=4:=by rw[hy];simp
       have aH:Hid (Pg r0 x (k+1)=Bs y):=Lib.hid (by rw[HB.out,hy]);rw[←hy]at hD;have rk:=hD.row64 (n:=4) aA;clear D hy;go_wp2_with fail;refine (Qd y aA wr).mono ?_;rintro e w2 ⟨rfl,b2⟩;have K2:=K.bl b2;have D2:=hD.bl b2;have R2:=R.bl b2;have B2:=K9 B b2;have aI:=Gl aA;have aJ:T5 w2 ⟨w.heap.size+1,0,none⟩ 4=true:=D2.can (by simp[aA]);have D3:=D2.puts (vs:=C9 (Bs y)) (by simp[aA,aI]);rw[←aH.out]at D3;have K3:=K2.putFar (p:=⟨w.heap.size+1,0,none⟩) (by show g≠w.heap.size+1;omega) (C9 (Bs y));have R3:=R2.putFar (p:=⟨w.heap.size+1,0,none⟩) (by show w.heap.size≠w.heap.size+1;omega) (C9 (Bs y));have B3:=C5 (a:=⟨w.heap.size+1,0,none⟩) B2 (by simp) (C9 (Bs y));rw[aH.out]at D3;go_wp2_with fail;go_roundw;case rel=>exact ⟨k+1,by omega,by rw[←ES.out];all_goals (simp<;>omega),K3,by rw[aH.out];exact D3,R3,B3⟩
       case measure=>have:=ES.out;simp[intOf]<;>omega
    ·obtain rfl:k=64:=by omega
     rw[←HN.out]at D;have e3:=E2.out;go_wp2_with fail;go_roundw;case rel=>exact ⟨m+1,by omega,by simp<;>omega,K,D,R,B⟩
     case measure=>simp[intOf];omega
  ·obtain rfl:m=n:=by omega
   have hD:Bk wr (w.heap.size+1) 182 (C9 (Qx ws)):=by have:=D;rw[←hn]at this;exact this
   obtain⟨ss,aC⟩:=F9 (Qx ws);have aK:ss.length=4:=by rw[aC];exact It ws
   have HS:Hid (Qx ws=ss):=Lib.hid aC.symm;rw[←aC]at hD;have rk:=hD.row64 (n:=4) aK;have aP:decide (0≤(m:Int)-1-(m:Int))=false:=decide_eq_false (by omega);have aJ:=Gy 4 R (by simp);clear D aC;go_wp2_with fail;refine bodyPost_ret (E5 rfl _ _ _ _ _ _ rfl (R.puts (vs:=C9 ss) (by simp[aK])) Fw rfl (by simp[Jp,aK])) rfl ⟨by rw[HS.out];rfl,C5 B (Nat.le_refl _) _⟩
def Sy (b:List UInt8):List UInt64:=Qx (wl b 8 64)
theorem Gv (b:List UInt8):(Sy b).length=4:=It _
@[go_sem ↓ high] theorem E6f:RB' 61:=BX' _
theorem A4z (b:List UInt8) (hb:b.length=64) (w:World):Calls Tryz.prog 135 #[A8 b] w fun e w'=>e=.returned (H9 (Sy b))∧Below w.heap.size w w':=by
 obtain⟨W0,aB⟩:=F9 ((w.alloc (Obj.cells (c8 b).toArray 61)).alloc (Obj.cells (C9 (J2 4)).toArray 184));have hL:W0=M9 w [(61,c8 b),(184,C9 (J2 4))]:=aB;have B0:=Ki hL;have K0:=Ko hL rfl;have R0:=Ig 1 hL rfl;clear hL;go_enter Tryz.func135,Tryz.ntmps135;go_wp2_with fail;rw[←aB];clear aB;refine (A4n b 64 8 w.heap.size _ hb rfl (by decide) W0 K0).mono ?_;rintro e w1 ⟨p,rfl,P1,hp,b1⟩;have R1:=R0.bl b1;have B1:=K9 B0 b1;obtain⟨ws,aA⟩:=F9 (wl b 8 64);have aC:ws.length=8:=by rw[aA];simp
 have HS:Hid (Sy b=Qx ws):=Lib.hid (by rw[aA];rfl);rw[←aA]at P1;clear aA;go_wp2_with fail;refine (A4v ws 8 p _ aC (by decide) w1 P1).mono ?_;rintro e w2 ⟨rfl,b2⟩;have R2:=R1.bl b2;have B2:=K9 B1 b2;have hl:=It ws;have aD:=Gy 4 R2 (by simp);go_wp2_with fail;refine bodyPost_ret (E5 rfl _ _ _ _ _ _ rfl (R2.puts (vs:=C9 (Qx ws)) (by simp[hl])) Fw rfl (by simp[Jp,hl])) rfl ⟨by rw[HS.out];rfl,C5 B2 (by simp) _⟩
section
theorem Qj:∀(xs ys:List UInt64),xs.length=ys.length→((List.range xs.length).all fun i=>xs.getD i 0==ys.getD i 0)=(xs==ys)
 | [],[],_=>rfl
 | x::xs,y::ys,h=>by
  have ih:=Qj xs ys (by simpa using h);rw[List.length_cons,List.range_succ_eq_map,List.all_cons,List.all_map];simp only[List.getD_cons_zero,Function.comp_def,List.getD_cons_succ,ih];simp[List.cons_beq_cons]
 | [],_::_,h=>by simp at h
 | _::_,[],h=>by simp at h
section
variable {P : Program} (w : World)
theorem Nb (d:Nat) (t e:TypeId) (n:Nat) (ht:P.underlying t=some (.array n e)) (he:P.underlying e=some (.int .u64)) (hsz:∀w,(sizeOf e).run P w=.ok 1 w)
 (xs ys:List UInt64) (hx:xs.length=n) (hy:ys.length=n) :
 (Op.equalIn (d+2) t (.agg (xs.map Vz).toArray) (.agg (ys.map Vz).toArray)).run P w=.ok (xs==ys) w:=by
 rw[←Qj xs ys (hx.trans hy.symm),hx,List.range_eq_range',Op.equalIn];simp only[Sem.run_bind,run_underlying ht,Result.andThen_ok,hsz,Std.Legacy.Range.forIn_eq_forIn_range',Std.Legacy.Range.size,Nat.sub_zero,Nat.add_sub_cancel,Nat.div_one];have hl:∀i∈List.range' 0 n 1,i<n:=fun i hi=>by simpa using (List.mem_range'_1.1 hi).2
 generalize List.range' 0 n 1=l at hl ⊢;induction l with
 | nil=>simp
 | cons i l ih=>
  have hi:i<n:=hl i (by simp);have px:(part e (xs.map Vz).toArray (i*1)).run P w=.ok (Vz (xs.getD i 0)) w:=by simp[part,isAgg,run_underlying he,List.getD,List.getElem?_eq_getElem (show i<xs.length by omega)]
  have py:(part e (ys.map Vz).toArray (i*1)).run P w=.ok (Vz (ys.getD i 0)) w:=by simp[part,isAgg,run_underlying he,List.getD,List.getElem?_eq_getElem (show i<ys.length by omega)]
  have pe:(Op.equalIn (d+1) e (Vz (xs.getD i 0)) (Vz (ys.getD i 0))).run P w=.ok (xs.getD i 0==ys.getD i 0) w:=by rw[Vz,Vz,run_equalIn_int w d e .u64 .u64 _ _ he];congr 1;rw[Bool.eq_iff_iff];simp only[beq_iff_eq];exact ⟨fun h=>B1s (by unfold Vz;rw[h]),fun h=>by rw[h]⟩
  simp only[List.forIn_cons,Sem.run_bind,px,py,pe,Result.andThen_ok,List.all_cons];cases hb:(xs.getD i 0==ys.getD i 0)
  ·simp
  ·simp only[Bool.not_true,Bool.false_eq_true,if_false,Sem.run_pure,Result.andThen_ok,Bool.true_and];exact ih fun j hj=>hl j (by simp[hj])
end
theorem A9g (w:World):(sizeOf 117).run Tryz.prog w=.ok 1 w:=by kernel_rfl
theorem B3z (d:Nat) (w:World) (xs ys:List UInt64) (hx:xs.length=4) (hy:ys.length=4):(Op.equalIn (d+2) 182 (H9 xs) (H9 ys)).run Tryz.prog w=.ok (xs==ys) w:=
 Nb w d _ _ 4 Tryz.underlying182 Tryz.underlying117 A9g xs ys hx hy
theorem B4i (d:Nat) (w:World) (xs ys:List UInt64) (hx:xs.length=5) (hy:ys.length=5):(Op.equalIn (d+2) 136 (H9 xs) (H9 ys)).run Tryz.prog w=.ok (xs==ys) w:=
 Nb w d _ _ 5 Tryz.underlying136 Tryz.underlying117 A9g xs ys hx hy
theorem C3z:Tryz.prog.stoodInHeld 138=false:=by kernel_rfl
theorem C4e:Tryz.prog.stoodInHeld 140=false:=by kernel_rfl
theorem C8t (w:World):(sizeOf 136).run Tryz.prog w=.ok 5 w:=by kernel_rfl
theorem D0c (w:World):(sizeOf 138).run Tryz.prog w=.ok 5 w:=by kernel_rfl
theorem D0l (xs:List UInt64) (o:Nat) (w:World):(part 136 (C9 xs).toArray o).run Tryz.prog w=.ok (H9 ((xs.drop o).take 5)) w:=by
 simp[part,isAgg,run_underlying Tryz.underlying136,C8t,H9,C9,List.extract_eq_take_drop]
theorem Zj (xs:List UInt64) (o:Nat) (w:World):(part 138 (C9 xs).toArray o).run Tryz.prog w=.ok (H9 ((xs.drop o).take 5)) w:=by
 simp[part,isAgg,run_underlying Q9,D0c,H9,C9,List.extract_eq_take_drop]
def eqF (d:Nat) (xs ys:Array Value):List (Bool×TypeId×Nat)→Sem Bool
 | []=>pure true
 | (b,t,o)::fs=>
  if b=true then do
   let a ←part t xs o
   let b ←part t ys o
   let r ←Op.equalIn d t a b
   if (!r)=true then pure false else eqF d xs ys fs
  else eqF d xs ys fs
theorem Pi (d : Nat) (xs ys : Array Value) : ∀ fs : List Field, Op.eqFields d xs ys fs = eqF d xs ys (fs.map fun f => (decide (f.name ≠ "_"), f.type, f.offset))
 | []=>rfl
 | f::fs=>by
  simp only[Op.eqFields,List.map_cons,eqF,Pi d xs ys fs];by_cases h : f.name ≠ "_" <;> simp [h]
theorem D4d : ((Tryz.prog.fieldsOf 138).toList.map fun f => (decide (f.name ≠ "_"), f.type, f.offset)) = [(true, 136, 0)] := by kernel_rfl
theorem D2t : ((Tryz.prog.fieldsOf 140).toList.map fun f => (decide (f.name ≠ "_"), f.type, f.offset)) = [(true, 138, 0), (true, 138, 5), (true, 138, 10), (true, 138, 15)] := by kernel_rfl
theorem C1e:Tryz.prog.underlying 138=some (.struct (Tryz.prog.fieldsOf 138)):=by kernel_rfl
theorem C4r:Tryz.prog.underlying 140=some (.struct (Tryz.prog.fieldsOf 140)):=by kernel_rfl
theorem Oj (d:Nat) (w:World) (xs ys:List UInt64) (hx:xs.length=5) (hy:ys.length=5):(Op.equalIn (d+3) 138 (H9 xs) (H9 ys)).run Tryz.prog w=.ok (xs==ys) w:=by
 rw[H9,H9,run_equalIn_struct w (d+2) _ _ _ C1e C3z,Pi,D4d];simp only[eqF,if_true,Sem.run_bind,D0l,Result.andThen_ok,List.drop_zero];rw[List.take_of_length_le (by omega),List.take_of_length_le (by omega),B4i d w xs ys hx hy];cases h:xs==ys<;>simp
theorem C8p {xs ys:List UInt64} (hx:xs.length=20) (hy:ys.length=20):(xs==ys)=(xs.take 5==ys.take 5&&((xs.drop 5).take 5==(ys.drop 5).take 5&&((xs.drop 10).take 5==(ys.drop 10).take 5&&((xs.drop 15).take 5==(ys.drop 15).take 5)))):=by
 rw[Bool.eq_iff_iff];simp only[beq_iff_eq,Bool.and_eq_true];constructor
 ·rintro rfl;exact ⟨rfl,rfl,rfl,rfl⟩
 ·rintro ⟨h0,h1,h2,h3⟩;have e:∀l:List UInt64,l.length=20→l=l.take 5++((l.drop 5).take 5++((l.drop 10).take 5++(l.drop 15).take 5)):=by intro l hl;have a1:=(List.take_append_drop 5 l).symm;have a2:=(List.take_append_drop 5 (l.drop 5)).symm;have a3:=(List.take_append_drop 5 (l.drop 10)).symm;have a4:(l.drop 15).take 5=l.drop 15:=List.take_of_length_le (by simp;omega);rw[List.drop_drop]at a2 a3;rw[a4,←a3,←a2,←a1]
  rw[e xs hx,e ys hy,h0,h1,h2,h3]
theorem B3s (d:Nat) (w:World) (xs ys:List UInt64) (hx:xs.length=20) (hy:ys.length=20):(Op.equalIn (d+4) 140 (H9 xs) (H9 ys)).run Tryz.prog w=.ok (xs==ys) w:=by
 rw[H9,H9,run_equalIn_struct w (d+3) _ _ _ C4r C4e,Pi,D2t,C8p hx hy];simp only[eqF,if_true,Sem.run_bind,Zj,Result.andThen_ok,List.drop_zero];rw[Oj d w _ _ (by simp;omega) (by simp;omega)];cases h0:xs.take 5==ys.take 5
 ·simp
 simp only[Result.andThen_ok,Bool.not_true,Bool.false_eq_true,if_false,Sem.run_bind,Zj];rw[Oj d w _ _ (by simp;omega) (by simp;omega)];cases h1:(xs.drop 5).take 5==(ys.drop 5).take 5
 ·simp
 simp only[Result.andThen_ok,Bool.not_true,Bool.false_eq_true,if_false,Sem.run_bind,Zj];rw[Oj d w _ _ (by simp;omega) (by simp;omega)];cases h2:(xs.drop 10).take 5==(ys.drop 10).take 5
 ·simp
 simp only[Result.andThen_ok,Bool.not_true,Bool.false_eq_true,if_false,Sem.run_bind,Zj];rw[Oj d w _ _ (by simp;omega) (by simp;omega)];cases h3:(xs.drop 15).take 5==(ys.drop 15).take 5<;>simp
noncomputable def A9s (neg:Bool) (n:Nat) (w:World) (raw:Result Next) (a b:Value):Result Next:=
 match Yy a,Yy b with
 | some xs,some ys=>if xs.length=n∧ys.length=n then .ok (.value (.bool (neg != (xs==ys)))) w else raw
 | _,_=>raw
@[go_sem] theorem D9u (neg : Bool) (n : Nat) (w : World) (raw : Result Next) (xs ys : List UInt64) (hx : xs.length = n) (hy : ys.length = n) : A9s neg n w raw (H9 xs) (H9 ys) = .ok (.value (.bool (neg != (xs == ys)))) w := by
 unfold A9s;rw[Rn,Rn];exact if_pos ⟨hx,hy⟩
section
variable {P : Program} (w : World) (ρ : Operand → Value) (dst : Option Tmp) (ty : TypeId) (pos : String) (after : Array Edge) (guard : Option (Nat × Bool))
theorem B6y (t n:TypeId) (x y:Operand) (yt:TypeId) (hq:∀xs ys:List UInt64,xs.length=n→ys.length=n→(Op.equalIn 10000 t (H9 xs) (H9 ys)).run P w=.ok (xs==ys) w) (hg:P.eqGuardType P.depth t=false) :
 (execOp ρ { dst,op:=.binOp .eql t x y yt,type:=ty,pos,after,guard }).run P w=A9s false n w (Q0 P ρ { dst,op:=.binOp .eql t x y yt,type:=ty,pos,after,guard } w) (ρ x) (ρ y):=by
 generalize hv:ρ x=a;generalize hz:ρ y=b;unfold A9s;split
 ·rename_i xs ys h1 h2
  replace h1:=Jc h1;replace h2:=Jc h2;split
  ·rename_i h
   have aA:(eqGuard .eql t x y a b).run P w=.ok () w:=by rw[h1,h2];exact run_eqGuard_agg (P:=P) w .eql t x y _ _ hg
   have e1:(binOp .eql t a b).run P w=.ok (.bool (xs==ys)) w:=by rw[h1,h2,H9,H9,run_eql_struct];exact congrArg (fun r:Result Bool=>r.andThen fun b w'=>Result.ok (Value.bool b) w') (hq xs ys h.1 h.2)
   simp only[execOp,hv,hz,Sem.run_bind,aA,Result.andThen_ok,e1,Sem.run_pure];simp
  ·rfl
 ·rfl
theorem B9m (t n:TypeId) (x y:Operand) (yt:TypeId) (hq:∀xs ys:List UInt64,xs.length=n→ys.length=n→(Op.equalIn 10000 t (H9 xs) (H9 ys)).run P w=.ok (xs==ys) w) (hg:P.eqGuardType P.depth t=false) :
 (execOp ρ { dst,op:=.binOp .neq t x y yt,type:=ty,pos,after,guard }).run P w=A9s true n w (Q0 P ρ { dst,op:=.binOp .neq t x y yt,type:=ty,pos,after,guard } w) (ρ x) (ρ y):=by
 generalize hv:ρ x=a;generalize hz:ρ y=b;unfold A9s;split
 ·rename_i xs ys h1 h2
  replace h1:=Jc h1;replace h2:=Jc h2;split
  ·rename_i h
   have aA:(eqGuard .neq t x y a b).run P w=.ok () w:=by rw[h1,h2];exact run_eqGuard_agg (P:=P) w .neq t x y _ _ hg
   have e1:(binOp .neq t a b).run P w=.ok (.bool (!(xs==ys))) w:=by rw[h1,h2,H9,H9,run_neq_struct];exact congrArg (fun r:Result Bool=>r.andThen fun b w'=>Result.ok (Value.bool (!b)) w') (hq xs ys h.1 h.2)
   simp only[execOp,hv,hz,Sem.run_bind,aA,Result.andThen_ok,e1,Sem.run_pure];simp
  ·rfl
 ·rfl
end
section
variable (w : World) (ρ : Operand → Value) (dst : Option Tmp) (ty : TypeId) (pos : String) (after : Array Edge) (guard : Option (Nat × Bool))
@[go_sem ↓ high] theorem E7i (x y : Operand) (yt : TypeId) :
 (execOp ρ { dst,op:=.binOp .neq 182 x y yt,type:=ty,pos,after,guard }).run Tryz.prog w=A9s true 4 w (Q0 Tryz.prog ρ { dst,op:=.binOp .neq 182 x y yt,type:=ty,pos,after,guard } w) (ρ x) (ρ y):=
 B9m w ρ dst ty pos after guard 182 4 x y yt (fun xs ys hx hy=>B3z 9998 w xs ys hx hy) (by kernel_rfl)
@[go_sem ↓ high] theorem E8y (x y : Operand) (yt : TypeId) :
 (execOp ρ { dst,op:=.binOp .eql 140 x y yt,type:=ty,pos,after,guard }).run Tryz.prog w=A9s false 20 w (Q0 Tryz.prog ρ { dst,op:=.binOp .eql 140 x y yt,type:=ty,pos,after,guard } w) (ρ x) (ρ y):=
 B6y w ρ dst ty pos after guard 140 20 x y yt (fun xs ys hx hy=>B3s 9996 w xs ys hx hy) (by kernel_rfl)
end
structure Pn where
 x:List UInt64
 y:List UInt64
 z:List UInt64
 t:List UInt64
def Pn.row (p:Pn):List UInt64:=Pw p.x p.y p.z p.t
structure Pn.Ok (p : Pn) : Prop where
 x:p.x.length=5
 y:p.y.length=5
 z:p.z.length=5
 t:p.t.length=5
theorem Pn.Ok.row {p:Pn} (h:p.Ok):p.row.length=20:=Z4 h.x h.y h.z h.t
section
variable {w : World} {g : Nat} {tt : TypeId} {p : Pn}
theorem Pn.loadx (h:Bk w g tt (C9 p.row)) (hp:p.Ok):J1 w ⟨g,0,none⟩ 5=some (C9 p.x):=E9l h hp.x hp.y hp.z hp.t
theorem Pn.loady (h:Bk w g tt (C9 p.row)) (hp:p.Ok):J1 w ⟨g,5,none⟩ 5=some (C9 p.y):=E9g h hp.x hp.y hp.z hp.t
theorem Pn.loadz (h:Bk w g tt (C9 p.row)) (hp:p.Ok):J1 w ⟨g,10,none⟩ 5=some (C9 p.z):=E7h h hp.x hp.y hp.z hp.t
theorem Pn.loadt (h:Bk w g tt (C9 p.row)) (hp:p.Ok):J1 w ⟨g,15,none⟩ 5=some (C9 p.t):=E8o h hp.x hp.y hp.z hp.t
end
theorem Bk.put64 {w:World} {g:Nat} {t:TypeId} {l m:List UInt64} {n:Nat} (K:Bk w g t (C9 l)) (hl:l.length=n) (hm:m.length=n):Bk (D8 w ⟨g,0,none⟩ (C9 m)) g t (C9 m):=K.puts (by simp[hl,hm])
theorem Bk.put8 {w:World} {g:Nat} {t:TypeId} {l m:List UInt8} {n:Nat} (K:Bk w g t (c8 l)) (hl:l.length=n) (hm:m.length=n):Bk (D8 w ⟨g,0,none⟩ (c8 m)) g t (c8 m):=K.puts (by simp[hl,hm])
theorem Bk.can64 {w:World} {g:Nat} {t:TypeId} {l:List UInt64} {n:Nat} (K:Bk w g t (C9 l)) (hl:l.length=n):T5 w ⟨g,0,none⟩ n=true:=K.can (by simp[hl])
theorem Bk.can8 {w:World} {g:Nat} {t:TypeId} {l:List UInt8} {n:Nat} (K:Bk w g t (c8 l)) (hl:l.length=n):T5 w ⟨g,0,none⟩ n=true:=K.can (by simp[hl])
theorem Jr {Q':Exit→Act→World→Prop} {a a':Act} {w:World} (h:Q' .normal a w) (e:a=a'):Q' .normal a' w:=e▸h
def H8 (Z:List Soup) (us:Nat→Value) (l:List Value):List Value:=Z.foldl (fun l z=>l.set z.dst (us z.at_)) l
theorem C7:∀(Z:List Soup) (us:Nat→Value) (l:List Value) (ds:List Deferred),Y4 Z us ⟨l.toArray,ds⟩=⟨(H8 Z us l).toArray,ds⟩
 | [],_,_,_=>rfl
 | z::Z,us,l,ds=>by
  show Y4 Z us (Act.put ⟨l.toArray,ds⟩ (some z.dst) (us z.at_))=⟨(H8 Z us (l.set z.dst (us z.at_))).toArray,ds⟩;rw[←C7 Z us (l.set z.dst (us z.at_)) ds];unfold Act.put;simp
theorem Cc {v:Value} {p lo hi:Nat} (h:∃b,Gz v=some b∧lo≤b∧b<hi) (e:v=.pointer (some ⟨p,0,none⟩)):lo≤p∧p<hi:=by
 obtain⟨b,h1,h2,h3⟩:=h;subst e;injection h1 with h1;subst h1;exact ⟨h2,h3⟩
theorem Lx {v v':Value} {p p':Nat} (h:Gz v≠Gz v') (e:v=.pointer (some ⟨p,0,none⟩)) (e':v'=.pointer (some ⟨p',0,none⟩)):p≠p':=by
 subst e e';exact fun e=>h (by rw[e])
end
end Go.Proofs.YtlegpkdighoflaaGreat
