/- A part of the proof of DirPlays. -/
import Derived.WalkKit
import Derived.WalkLawsBesides
import Derived.Lib.Hide
import Derived.Deep.OwnRows
import Derived.Test.YtlegpkdighoflaaGreatRae
set_option linter.unusedVariables false
set_option linter.unusedSimpArgs false
set_option maxRecDepth 100000
set_option maxHeartbeats 40000000
namespace Go.Proofs.YtlegpkdighoflaaGreat
open Go Go.RowKit Sh
namespace Sh
theorem A9y (x:UInt32) (s:Nat) (h0:0<s) (h:s<32):(Fc x (-(s:Int))).toNat=(x.toNat <<< (32-s)) % 2 ^ 32 ||| x.toNat >>> s:=by
 unfold Fc;have e1:(32 + -(s:Int)).toNat=32-s:=by omega
 have e2:(- -(s:Int)).toNat=s:=by omega
 rw[e1,e2,UInt32.toNat_or,UInt32.toNat_shiftLeft,UInt32.toNat_shiftRight,UInt32.toNat_ofNat',UInt32.toNat_ofNat'];have e3:(32-s) % 2 ^ 32 % 32=32-s:=by omega
 have e4:s % 2 ^ 32 % 32=s:=by omega
 rw[e3,e4]
theorem C6y (x:UInt32) (s:Nat) (h0:0<s) (h:s<32) :
 (x.toUInt64 >>> UInt64.ofNat s ||| x.toUInt64 <<< UInt64.ofNat (32-s)) % 4294967296=(Fc x (-(s:Int))).toUInt64:=by
 apply UInt64.toNat_inj.1;have hx:=UInt32.toNat_lt x;rw[UInt32.toNat_toUInt64,A9y x s h0 h,UInt64.toNat_mod,UInt64.toNat_or,UInt64.toNat_shiftLeft,UInt64.toNat_shiftRight,UInt32.toNat_toUInt64,UInt64.toNat_ofNat',UInt64.toNat_ofNat'];have e3:(32-s) % 2 ^ 64 % 64=32-s:=by omega
 have e4:s % 2 ^ 64 % 64=s:=by omega
 rw[e3,e4];show (_ ||| _) % 2 ^ 32=_;rw[Nat.or_mod_two_pow,Nat.mod_mod_of_dvd _ (Nat.pow_dvd_pow 2 (by decide)),Nat.or_comm];congr 1;exact Nat.mod_eq_of_lt (Nat.lt_of_le_of_lt (Nat.shiftRight_le _ _) hx)
theorem D3v (x:UInt64):x % 4294967296=x.toUInt32.toUInt64:=by
 apply UInt64.toNat_inj.1;rw[UInt64.toNat_mod,UInt32.toNat_toUInt64,UInt64.toNat_toUInt32];rfl
theorem A9s (a b:UInt32):a.toUInt64 ^^^ b.toUInt64=(a ^^^ b).toUInt64:=by simp
theorem D2h (a:UInt32) (s:Nat) (h:s<32):a.toUInt64 >>> UInt64.ofNat s=(a >>> UInt32.ofNat s).toUInt64:=by
 apply UInt64.toNat_inj.1;rw[UInt64.toNat_shiftRight,UInt32.toNat_toUInt64,UInt32.toNat_toUInt64,UInt32.toNat_shiftRight,UInt64.toNat_ofNat',UInt32.toNat_ofNat'];congr 1;omega
theorem F8q (e f g:UInt32):e &&& f ||| ~~~e &&& g=e &&& f ^^^ ~~~e &&& g:=by
 apply UInt32.toBitVec_inj.1;simp only[UInt32.toBitVec_or,UInt32.toBitVec_and,UInt32.toBitVec_xor,UInt32.toBitVec_not];ext i hi
 simp only[BitVec.getElem_or,BitVec.getElem_and,BitVec.getElem_xor,BitVec.getElem_not];cases e.toBitVec[i]<;>simp
theorem F0q (a b c:UInt32):a &&& b ||| a &&& c ||| b &&& c=a &&& b ^^^ a &&& c ^^^ b &&& c:=by
 apply UInt32.toBitVec_inj.1;simp only[UInt32.toBitVec_or,UInt32.toBitVec_and,UInt32.toBitVec_xor];ext i hi
 simp only[BitVec.getElem_or,BitVec.getElem_and,BitVec.getElem_xor];cases a.toBitVec[i]<;>cases b.toBitVec[i]<;>cases c.toBitVec[i]<;>rfl
end Sh
@[go_sem ↓ high] theorem E9o (x : UInt64) : Op.intDiv .rem .u64 (F0 x) 4294967296 = pure (.int .u64 (F0 (x % 4294967296))) := by
 unfold Op.intDiv F0;rw[if_neg (by decide),UInt64.toNat_mod];congr 2
@[go_sem ↓ high] theorem C6s (x : UInt64) : Op.intDiv .rem .u64 (F0 x) 256 = pure (.int .u64 (F0 (x % 256))) := by
 unfold Op.intDiv F0;rw[if_neg (by decide),UInt64.toNat_mod];congr 2
@[go_sem ↓ high] theorem E6g (x : UInt64) : Op.intArith .mul .u64 (F0 x) 256 = pure (.int .u64 (F0 (x * 256))) := A8u x 256
@[go_sem ↓ high] theorem F2c (x : UInt64) : Op.intArith .mul .u64 (F0 x) 8 = pure (.int .u64 (F0 (x * 8))) := A8u x 8
@[go_sem ↓ high] theorem C5a (x : UInt64) : Op.intDiv .quo .u64 (F0 x) 256 = pure (.int .u64 (F0 (x / 256))) := by
 have h:=Gb (x.toNat / 256);have hx:=Me x;have e:Op.intDiv .quo .u64 (F0 x) 256=pure (.int .u64 (IntKind.u64.wrap ((x.toNat / 256:Nat):Int))):=rfl;rw[e,h,Nat.mod_eq_of_lt (by omega)];unfold F0;rw[UInt64.toNat_div];rfl
theorem D3z (x:UInt32) (s:Nat) (h0:0<s) (h:s<32) (w:World) :
 Calls Tryz.prog 145 #[.int .u64 (F0 x.toUInt64),.int .u64 (s:Int),.int .u64 32] w fun e w'=>e=.returned (.int .u64 (F0 (Fc x (-(s:Int))).toUInt64))∧w'=w:=by
 have hs:IntKind.u64.wrap (32-(s:Int))=((32-s:Nat):Int):=(IntWalk.u64_in _ (by omega)).trans (by omega);have h1:s<64:=by omega
 have h2:32-s<64:=by omega
 have ht:=Lib.hid (C6y x s h0 h);generalize x.toUInt64=X at *;go_enter Tryz.func145,Tryz.ntmps145;go_wp2;go_ret;exact ⟨by rw[←ht.out];rfl,rfl⟩
theorem A3j (x:UInt32) (n:Int) (h:0<n∧n<32) (w:World) :
 Calls Tryz.prog 145 #[.int .u64 (F0 x.toUInt64),.int .u64 n,.int .u64 32] w fun e w'=>e=.returned (.int .u64 (F0 (Fc x (-n)).toUInt64))∧w'=w:=by
 obtain⟨s,rfl⟩:=Int.eq_ofNat_of_zero_le (show 0≤n by omega);exact D3z x s (by omega) (by omega) w
theorem F2g (x:UInt64) (w:World) :
 Calls Tryz.prog 120 #[.int .u64 (F0 x),.int .u64 32] w fun e w'=>e=.returned (.int .u64 (F0 x.toUInt32.toUInt64))∧w'=w:=by
 have ht:=Lib.hid (D3v x);go_enter Tryz.func120,Tryz.ntmps120;go_wp2;go_ret;exact ⟨by rw[←ht.out];rfl,rfl⟩
def Tf (x:UInt32) (a b c:Int) (sh:Bool):UInt32:=Fc x (-a) ^^^ Fc x (-b) ^^^ (if sh then x >>> UInt32.ofNat c.toNat else Fc x (-c))
theorem C5t (x:UInt32) (a b c:Int) (ha:0<a∧a<32) (hb:0<b∧b<32) (hc:0<c∧c<32) (w:World) :
 Calls Tryz.prog 121 #[.int .u64 (F0 x.toUInt64),.int .u64 32,.int .u64 a,.int .u64 b,.int .u64 c,.bool true] w fun e w'=>e=.returned (.int .u64 (F0 (Tf x a b c true).toUInt64))∧w'=w:=by
 obtain⟨s,rfl⟩:=Int.eq_ofNat_of_zero_le (show 0≤c by omega);have hs:s<64:=by omega
 go_enter Tryz.func121,Tryz.ntmps121;go_wp2_with fail;refine (A3j x a ha _).mono ?_;rintro e w' ⟨rfl,rfl⟩;go_wp2_with fail;refine (A3j x b hb _).mono ?_;rintro e w' ⟨rfl,rfl⟩;go_wp2_with fail;go_ret;refine ⟨?_,rfl⟩;show Ending.returned (Value.int _ _)=_;rw[D2h x s (by omega),A9s,A9s];rfl
theorem C6h (x:UInt32) (a b c:Int) (ha:0<a∧a<32) (hb:0<b∧b<32) (hc:0<c∧c<32) (w:World) :
 Calls Tryz.prog 121 #[.int .u64 (F0 x.toUInt64),.int .u64 32,.int .u64 a,.int .u64 b,.int .u64 c,.bool false] w fun e w'=>e=.returned (.int .u64 (F0 (Tf x a b c false).toUInt64))∧w'=w:=by
 go_enter Tryz.func121,Tryz.ntmps121;go_wp2_with fail;refine (A3j x a ha _).mono ?_;rintro e w' ⟨rfl,rfl⟩;go_wp2_with fail;refine (A3j x b hb _).mono ?_;rintro e w' ⟨rfl,rfl⟩;go_wp2_with fail;refine (A3j x c hc _).mono ?_;rintro e w' ⟨rfl,rfl⟩;go_wp2_with fail;go_ret;refine ⟨?_,rfl⟩;show Ending.returned (Value.int _ _)=_;rw[A9s,A9s];rfl
theorem Yc (x:UInt32) (a b c:Int) (sh:Bool) (h:(0<a∧a<32)∧(0<b∧b<32)∧(0<c∧c<32)) (w:World) :
 Calls Tryz.prog 121 #[.int .u64 (F0 x.toUInt64),.int .u64 32,.int .u64 a,.int .u64 b,.int .u64 c,.bool sh] w fun e w'=>e=.returned (.int .u64 (F0 (Tf x a b c sh).toUInt64))∧w'=w:=by
 cases sh
 ·exact C6h x a b c h.1 h.2.1 h.2.2 w
 ·exact C5t x a b c h.1 h.2.1 h.2.2 w
theorem Fm {P:Program} {ops:Array Oper} {rest:List Oper} {o:Oper} {a:Act} {w:World} {Q:Exit→Act→World→Prop} (hg:o.guard=none) (t e len:Nat) (parts:Array (Nat×Operand)) (ho:o.op=.buildSlice t len parts)
 (ht:P.underlying t=some (.slice e)) (size:Nat) (z:Value) (hi:(P.info? e).map (fun i=>(i.size,i.zero))=some (size,some z)) (hl:len*size≤16777216) (hp:len*size≠0) (cells:Array Value)
 (hf:Instr.fill (fun i=>some (i*size,size)) ((Array.range (len*size)).map (fun j=>z.cells[j % z.cells.size]!)) (parts.map fun (i,x)=>(i,a.eval x)).toList=some cells)
 (h:wpList P ops Q rest (a.put o.dst (.slice (some ⟨w.heap.size,0,none⟩) len len)) (w.alloc (.cells cells e))):wpList P ops Q (o::rest) a w:=
 wpList_plain hg fun _ hK=>by
  cases hq:P.info? e with
  | none=>simp[hq]at hi
  | some i=>
   simp only[hq,Option.map_some,Option.some.injEq,Prod.mk.injEq]at hi;obtain⟨h1,h2⟩:=hi;have aA:¬ (16777216<len*size):=by omega
   have hr:(Instr.buildSlice t len (parts.map fun (i,x)=>(i,a.eval x))).run P w=.ok (.slice (some ⟨w.heap.size,0,none⟩) len len) (w.alloc (.cells cells e)):=by
    unfold Instr.buildSlice;simp only[Sem.run_bind,run_underlying ht,Result.andThen_ok,sizeOf,typeInfo,Sem.run_pure];simp[hq,h1,aA,hp,zeroValue,typeInfo,h2,newRow];have aB:Instr.fill (fun i=>some (i*size,size)) (Array.map (fun x=>z.cells[x % z.cells.size]!) (Array.range (len*size))) (List.map (fun x=>(x.fst,a.eval x.snd)) parts.toList)=some cells:=by simpa using hf
    rw[aB];rfl
   unfold Oper.wp execOp;simp only[ho,Sem.run_bind,hr,Result.andThen_ok,Sem.run_pure];exact hK _ _ h
theorem B0v:(Tryz.prog.info? 117).map (fun i=>(i.size,i.zero))=some (1,some (.int .u64 0)):=by kernel_rfl
theorem B9s (k:Nat) (hk:k<8) (w:World) :
 Calls Tryz.prog 119 #[.int .i64 (k:Int)] w fun e w'=>e=.returned (.int .u64 (F0 (F8 W8 k)))∧Below w.heap.size w w':=by
 have aA:W8.length=8:=by decide +kernel
 have hc:(w.alloc (Obj.cells (C9 W8).toArray 117)).cell? ⟨w.heap.size,k,none⟩=some (.int .u64 (F0 (F8 W8 k))):=(Bk.new w _ _).at_ (J6 (by omega));go_enter Tryz.func119,Tryz.ntmps119;go_wp2_with (refine Fm rfl _ 117 _ _ rfl Tryz.underlying197 1 _ B0v (by decide) (by decide) (C9 W8).toArray (by kernel_rfl) ?_);go_ret;exact ⟨rfl,Bh _ _⟩
theorem C8c (k:Nat) (hk:k<80) (w:World) :
 Calls Tryz.prog 122 #[.int .i64 (k:Int)] w fun e w'=>e=.returned (.int .u64 (F0 (F8 Bu k)))∧Below w.heap.size w w':=by
 have aA:Bu.length=80:=by decide +kernel
 have hc:(w.alloc (Obj.cells (C9 Bu).toArray 117)).cell? ⟨w.heap.size,k,none⟩=some (.int .u64 (F0 (F8 Bu k))):=(Bk.new w _ _).at_ (J6 (by omega));go_enter Tryz.func122,Tryz.ntmps122;go_wp2_with (refine Fm rfl _ 117 _ _ rfl Tryz.underlying197 1 _ B0v (by decide) (by decide) (C9 Bu).toArray (by kernel_rfl) ?_);go_ret;exact ⟨rfl,Bh _ _⟩
namespace Sh
def up (S:List UInt32):List UInt64:=S.map (·.toUInt64)
theorem Gj (S:List UInt32):(up S).length=S.length:=by simp[up]
theorem Zm (S:List UInt32) (k:Nat):F8 (up S) k=(Z1 S k).toUInt64:=by
 unfold F8 Z1 up;simp only[List.getD_eq_getElem?_getD,List.getElem?_map];cases S[k]?<;>simp
def sd (N:UInt64):Nat→UInt64
 | 0=>N
 | j+1=>sd N j / 256
def lb (N:UInt64):Nat→List UInt8
 | 0=>[]
 | j+1=>(sd N j % 256).toUInt8::lb N j
theorem C4s (N:UInt64) (j:Nat):(lb N j).length=j:=by
 induction j with
 | zero=>rfl
 | succ j ih=>simp[lb,ih]
theorem D5x (x:UInt64):(x % 256).toUInt8=x.toUInt8:=by
 apply UInt8.toNat_inj.1;rw[UInt64.toNat_toUInt8,UInt64.toNat_toUInt8,UInt64.toNat_mod];show x.toNat % 256 % 2 ^ 8=x.toNat % 2 ^ 8;omega
theorem D1j (N:UInt64) (j:Nat):(sd N j).toNat=N.toNat / 256 ^ j:=by
 induction j with
 | zero=>simp[sd]
 | succ j ih=>
  unfold sd;rw[UInt64.toNat_div,ih,Nat.pow_succ,←Nat.div_div_eq_div_mul];rfl
theorem Wk (N:UInt64) (j:Nat) (h:j<8):(sd N j).toUInt8=(N >>> UInt64.ofNat (8*j)).toUInt8:=by
 apply UInt8.toNat_inj.1;rw[UInt64.toNat_toUInt8,UInt64.toNat_toUInt8,D1j,UInt64.toNat_shiftRight,UInt64.toNat_ofNat',Nat.shiftRight_eq_div_pow];have e:8*j % 2 ^ 64 % 64=8*j:=by omega
 rw[e,Nat.pow_mul]
theorem D3o (N:UInt64):lb N 8=P9 N:=by
 simp only[lb,D5x];rw[Wk N 7 (by omega),Wk N 6 (by omega),Wk N 5 (by omega),Wk N 4 (by omega),Wk N 3 (by omega),Wk N 2 (by omega),Wk N 1 (by omega)];rfl
def fl (L:Nat) (N:UInt64) (r:Nat):List UInt8:=List.replicate r 0++lb N (L-r)
theorem Ub (L:Nat) (N:UInt64) (r:Nat) (h:r≤L):(fl L N r).length=L:=by simp[fl,C4s];omega
theorem E3v (L:Nat) (N:UInt64) (r:Nat) (h0:0<r) (h:r≤L):(fl L N r).set (r-1) (sd N (L-r) % 256).toUInt8=fl L N (r-1):=by
 obtain⟨s,rfl⟩:∃s,r=s+1:=⟨r-1,by omega⟩;unfold fl;rw[Nat.add_sub_cancel];have e:L-s=L-(s+1)+1:=by omega
 rw[e];show _=List.replicate s 0++((sd N (L-(s+1)) % 256).toUInt8::lb N (L-(s+1)));rw[List.replicate_succ',List.append_assoc,List.set_append_right _ _ (by simp)];simp
def pw (s:Nat) (q:List UInt8) (t:Nat):Nat→UInt64
 | 0=>0
 | j+1=>pw s q t j*256+(g8 q (s*t+j)).toUInt64
theorem F7y (q:List UInt8) (t:Nat):pw 4 q t 4=(Py q t).toUInt64:=by
 simp only[pw,Py,Nat.add_zero];generalize g8 q (4*t)=a;generalize g8 q (4*t+1)=b;generalize g8 q (4*t+2)=c;generalize g8 q (4*t+3)=d;have ha:=UInt8.toNat_lt a;have hb:=UInt8.toNat_lt b;have hc:=UInt8.toNat_lt c;have hd:=UInt8.toNat_lt d;apply UInt64.toNat_inj.1;simp only[UInt64.toNat_add,UInt64.toNat_mul,UInt32.toNat_toUInt64,UInt32.toNat_or,UInt32.toNat_shiftLeft,UInt8.toNat_toUInt32,UInt8.toNat_toUInt64];show ((((0*256 % 2 ^ 64+a.toNat) % 2 ^ 64*256 % 2 ^ 64+b.toNat) % 2 ^ 64*256 % 2 ^ 64+c.toNat) % 2 ^ 64*256 % 2 ^ 64+d.toNat) % 2 ^ 64=a.toNat <<< 24 % 2 ^ 32 ||| b.toNat <<< 16 % 2 ^ 32 ||| c.toNat <<< 8 % 2 ^ 32 ||| d.toNat;simp only[Nat.shiftLeft_eq];rw[Nat.mod_eq_of_lt (show a.toNat*2 ^ 24<2 ^ 32 by omega),Nat.mod_eq_of_lt (show b.toNat*2 ^ 16<2 ^ 32 by omega),Nat.mod_eq_of_lt (show c.toNat*2 ^ 8<2 ^ 32 by omega)];rw[show a.toNat*2 ^ 24=2 ^ 24*a.toNat by omega,←Nat.two_pow_add_eq_or_of_lt (show b.toNat*2 ^ 16<2 ^ 24 by omega)];rw[show 2 ^ 24*a.toNat+b.toNat*2 ^ 16=2 ^ 16*(2 ^ 8*a.toNat+b.toNat) by omega,←Nat.two_pow_add_eq_or_of_lt (show c.toNat*2 ^ 8<2 ^ 16 by omega)];rw[show 2 ^ 16*(2 ^ 8*a.toNat+b.toNat)+c.toNat*2 ^ 8=2 ^ 8*(2 ^ 16*a.toNat+2 ^ 8*b.toNat+c.toNat) by omega,←Nat.two_pow_add_eq_or_of_lt (show d.toNat<2 ^ 8 by omega)];omega
end Sh
section
theorem M9.empty (w:World) (base:Nat) (hb:base≤w.heap.size):M9 (w.alloc (.cells #[] 5)) base (.slice (some ⟨w.heap.size,0,none⟩) 0 0) []:=
 ⟨rfl,.inr ⟨w.heap.size,0,#[],rfl,hb,heap_alloc_new w _,Nat.le_refl _,by simp[maxLen],rfl,rfl⟩⟩
theorem By.alloc {w:World} {lo B:Nat} {v:Value} {l:List UInt8} (h:By w lo B v l) (hB:B≤w.heap.size) (o:Obj):By (w.alloc o) lo B v l:=h.below ((Bh _ _).mono hB)
theorem Bk.by8 {w:World} {g:Nat} {l:List UInt8} (h:Bk w g 5 (c8 l)) (n:Nat) (hn:n=l.length) (hl:l.length≤1000000):By w 0 w.heap.size (.slice (some ⟨g,0,none⟩) n n) l:=by
 subst hn;refine By.mk_ (Nat.le_refl _) (by simp only[maxLen];omega) (.inr ⟨g,0,rfl,Nat.zero_le _,h.lt,fun j u hj=>?_⟩);rw[Nat.zero_add];exact h.at_ hj
theorem C3s {W w:World} {g:Nat} (h:W.grownBy w (some g)) (i:Nat) (u:Value):W.grownBy (w.setCell ⟨g,i,none⟩ u) (some g):=
 ⟨h.os,h.tape,h.output,by simpa using h.size,fun k hk hne=>(Below.heap_setCell w _ u k (by intro e;exact hne (by rw[e]))).trans (h.block k hk hne)⟩
theorem D6l (L:Nat) (N:UInt64):fl L N L=z8 L:=by simp[fl,lb,z8]
theorem D0o:(Tryz.prog.info? 60).map (fun i=>(i.size,i.zero))=some (1,some (.int .u64 0)):=by kernel_rfl
theorem B2n:(Tryz.prog.info? 117).map (fun i=>(i.zero,i.size,i.bytes))=some (some (.int .u64 0),1,8):=by kernel_rfl
theorem E8d (n:Nat):madeCells #[.int .u8 0] n=(c8 (z8 n)).toArray:=by
 apply Array.ext';simp only[madeCells,c8,z8];apply List.ext_getElem
 ·simp
 ·intro i h1 h2;simp at h1;have e:v8 0=.int .u8 0:=rfl;simp[Nat.mod_one,e]
theorem E2i (n:Nat):madeCells #[.int .u64 0] n=(C9 (M1 n)).toArray:=by
 apply Array.ext';simp only[madeCells,C9,M1];apply List.ext_getElem
 ·simp
 ·intro i h1 h2;simp at h1;have e:Ys 0=.int .u64 0:=rfl;simp[Nat.mod_one,e]
section
variable {ops : Array Oper} {rest : List Oper} {o : Oper} {a : Act} {w : World} {Q : Exit → Act → World → Prop}
theorem Yo (hg:o.guard=none) (l c:Operand) (hop:o.op=.makeSlice 45 l c) (n:Nat) (kl kc:IntKind) (hl:a.eval l=.int kl (n:Int)) (hc:a.eval c=.int kc (n:Int)) (hn:n≤1000000)
 (hK:wpList Tryz.prog ops Q rest (a.put o.dst (.slice (some ⟨w.heap.size,0,none⟩) n n)) (w.alloc (.cells (c8 (z8 n)).toArray 5))):wpList Tryz.prog ops Q (o::rest) a w:=by
 obtain⟨i,hi,hz⟩:=Option.map_eq_some_iff.1 A7j;simp only[Prod.mk.injEq]at hz;refine wpList_make_row w hg l c _ hop _ i _ Tryz.underlying45 hi hz.1 hz.2.1 rfl kl kc n hl hc (by rw[hz.2.2];omega) (by omega) ?_;rw[E8d];exact hK
theorem Mx (hg:o.guard=none) (l c:Operand) (hop:o.op=.makeSlice 197 l c) (n:Nat) (kl kc:IntKind) (hl:a.eval l=.int kl (n:Int)) (hc:a.eval c=.int kc (n:Int)) (hn:n≤1000000)
 (hK:wpList Tryz.prog ops Q rest (a.put o.dst (.slice (some ⟨w.heap.size,0,none⟩) n n)) (w.alloc (.cells (C9 (M1 n)).toArray 117))):wpList Tryz.prog ops Q (o::rest) a w:=by
 obtain⟨i,hi,hz⟩:=Option.map_eq_some_iff.1 B2n;simp only[Prod.mk.injEq]at hz;refine wpList_make_row w hg l c _ hop _ i _ Tryz.underlying197 hi hz.1 hz.2.1 rfl kl kc n hl hc (by rw[hz.2.2];omega) (by omega) ?_;rw[E2i];exact hK
theorem F0k (hgd:o.guard=none) (s x:Operand) (ho:o.op=.call { callee:=.builtin .append,args:=#[s,x],argTypes:=#[197,197] })
 (hs:a.eval s=.slice (some ⟨w.heap.size,0,none⟩) 0 0) (g n c:Nat) (m:List UInt64) (hx:a.eval x=.slice (some ⟨g,0,none⟩) n c) (hn:n=m.length) (hm:Bk w g 117 (C9 m)) (hsz:m.length≤1000000)
 (h:∀v w',Sl w' w.heap.size w'.heap.size v (C9 m)→Below w.heap.size w w'→w.heap.size<w'.heap.size→wpList Tryz.prog ops Q rest (a.put o.dst v) w'):wpList Tryz.prog ops Q (o::rest) a (w.alloc (.cells #[] 117)):=
 wpList_plain hgd fun _ hK=>by
  obtain⟨i0,aD,aE,aF,aG⟩:=info_parts B2n;have aA:(w.alloc (.cells #[] 117)).ownsRow w.heap.size 117 1 (.slice (some ⟨w.heap.size,0,none⟩) 0 0) 0 []:=
   ⟨rfl,.inr ⟨w.heap.size,0,#[],rfl,Nat.le_refl _,heap_alloc_new w _,Nat.le_refl _,by simp[maxLen],rfl,rfl⟩⟩
  have aB:∀u∈C9 m,u.oneCell'=true:=by intro u hu;obtain⟨x,_,rfl⟩:=List.mem_map.1 hu;rfl
  have aH:=hm.alloc (.cells #[] 117);obtain⟨v',w',hr,h6,h7,_,_⟩:=run_append_own_at (P:=Tryz.prog) (w.alloc (.cells #[] 117)) w.heap.size 197 o.type 117 i0 (.int .u64 0) 1 8 Tryz.underlying197 aD aE aF aG rfl (by decide) _ 0 [] aA ⟨g,0,none⟩ n c (C9 m) (by simp[hn])
   (fun j u hj=>by rw[U9,Nat.zero_add];exact aH.at_ hj) aB (by simp only[maxLen];omega) (by omega) (by simp)
  unfold Oper.wp execOp;simp only[ho,resolve,invoke,builtin,Sem.run_bind,Sem.run_pure,Result.andThen_ok,List.map_toArray,List.map_cons,List.map_nil,hs,hx,hr];have aC:=h7.size;simp at aC;refine hK _ _ (h v' w' ?_ ((Bh _ _).grown h7 (by simp) fun k hk=>?_) (by omega))
  ·have:=Sl.of_own h6;simpa using this
  ·simp[Value.ownBlock]at hk;omega
end
end
section
namespace Sh
def low (x:UInt64):UInt64:=x.toUInt32.toUInt64
theorem D5k (x:UInt64):low x=x.toUInt32.toUInt64:=rfl
theorem E3s (x:UInt64):(low x).toUInt32=x.toUInt32:=by unfold low;exact UInt32.toUInt32_toUInt64 _
theorem C7f (y m x l:UInt32):low ((Tf y 17 19 10 true).toUInt64+m.toUInt64+(Tf x 7 18 3 true).toUInt64+l.toUInt64)=(Zo y m x l).toUInt64:=by
 unfold low;congr 1;simp only[UInt64.toUInt32_add,UInt32.toUInt32_toUInt64];rfl
def C4v (V:List UInt32) (k:Nat) (m:UInt32):UInt64:=
 (Z1 V 7).toUInt64+(Tf (Z1 V 4) 6 11 25 false).toUInt64+((Z1 V 4).toUInt64 &&& (Z1 V 5).toUInt64 ||| low (~~~(Z1 V 4).toUInt64) &&& (Z1 V 6).toUInt64)+F8 Bu k >>> 32+m.toUInt64
def D5s (V:List UInt32):UInt64:=
 (Tf (Z1 V 0) 2 13 22 false).toUInt64+((Z1 V 0).toUInt64 &&& (Z1 V 1).toUInt64 ||| (Z1 V 0).toUInt64 &&& (Z1 V 2).toUInt64 ||| (Z1 V 1).toUInt64 &&& (Z1 V 2).toUInt64)
theorem D3d (V:List UInt32) (k:Nat) (m:UInt32):(C4v V k m).toUInt32=D5p V (K32 k) m:=by
 unfold C4v D5p K32;simp only[UInt64.toUInt32_add,UInt32.toUInt32_toUInt64,UInt64.toUInt32_or,UInt64.toUInt32_and,E3s,UInt64.toUInt32_not];rw[F8q];rfl
theorem D2d (V:List UInt32):(D5s V).toUInt32=E4o V:=by
 unfold D5s E4o;simp only[UInt64.toUInt32_add,UInt32.toUInt32_toUInt64,UInt64.toUInt32_or,UInt64.toUInt32_and];rw[F0q];rfl
theorem B8g (V:List UInt32) (k:Nat) (m:UInt32):up (Tt V (K32 k) m) =
 [low (C4v V k m+D5s V),(Z1 V 0).toUInt64,(Z1 V 1).toUInt64,(Z1 V 2).toUInt64,low ((Z1 V 3).toUInt64+C4v V k m),(Z1 V 4).toUInt64,(Z1 V 5).toUInt64,(Z1 V 6).toUInt64]:=by
 simp only[D5k,UInt64.toUInt32_add,D3d,D2d,UInt32.toUInt32_toUInt64];rfl
def xs (L:Nat) (X:List UInt64):List UInt64:=X++M1 (L-X.length)
theorem Zp (L:Nat) (X:List UInt64) (h:X.length≤L):(xs L X).length=L:=by simp[xs];omega
theorem B9o (L:Nat) (X:List UInt64) (t:Nat) (x:UInt64) (ht:X.length=t) (h:t<L):(xs L X).set t x=xs L (X++[x]):=by
 subst ht;unfold xs M1;obtain⟨d,hd⟩:∃d,L-X.length=d+1:=⟨L-X.length-1,by omega⟩;rw[hd,List.length_append,List.length_singleton,show L-(X.length+1)=d by omega,List.set_append_right _ _ (Nat.le_refl _),Nat.sub_self,List.replicate_succ];simp
theorem D7i (L:Nat) (X:List UInt64) (t:Nat) (ht:X.length=t) (h:t<L):(xs L X).set t 0=xs L X:=by
 rw[B9o L X t 0 ht h];unfold xs M1;obtain⟨d,hd⟩:∃d,L-X.length=d+1:=⟨L-X.length-1,by omega⟩;rw[hd,List.length_append,List.length_singleton,show L-(X.length+1)=d by omega,List.replicate_succ];simp
theorem E3u (L:Nat) (X:List UInt64) (i:Nat) (h:i<X.length):F8 (xs L X) i=F8 X i:=by
 unfold F8 xs;rw[List.getD_eq_getElem?_getD,List.getD_eq_getElem?_getD,List.getElem?_append_left h]
theorem D6a (L:Nat) (X:List UInt64) (h:X.length=L):xs L X=X:=by simp[xs,h,M1]
theorem D8n (q:List UInt8) (t:Nat) (h:t<16):up (Qg q (t+1))=up (Qg q t)++[pw 4 q t 4]:=by
 rw[F7y];show up (Qg q t++[if t<16 then Py q t else _])=_;rw[if_pos h];simp[up]
theorem C9h (q:List UInt8) (t:Nat) (h:16≤t):up (Qg q (t+1))=up (Qg q t)++[low ((Tf (Z1 (Qg q t) (t-2)) 17 19 10 true).toUInt64+(Z1 (Qg q t) (t-7)).toUInt64+(Tf (Z1 (Qg q t) (t-15)) 7 18 3 true).toUInt64+(Z1 (Qg q t) (t-16)).toUInt64)]:=by
 rw[C7f];show up (Qg q t++[if t<16 then Py q t else Zo _ _ _ _])=_;rw[if_neg (by omega)];simp[up]
theorem D2a (S V:List UInt32) (hS:S.length=8) (hV:V.length=8) (k:Nat) (hk:k<8) :
 ((up (add32 S V)).take k++(up S).drop k).set k (low ((Z1 S k).toUInt64+(Z1 V k).toUInt64))=(up (add32 S V)).take (k+1)++(up S).drop (k+1):=by
 refine Jn _ _ _ _ (by simp[up,add32,hS,hV]) (by simp[up,add32,hS,hV];omega) ?_;unfold up;rw[List.getElem?_map,B2i S V hS hV k hk,Option.map_some];unfold low;congr 2;simp
def A4z:List UInt64:=W8.map fun (r:UInt64)=>r >>> 32
theorem D7h:A4z=up (W8.map fun (r:UInt64)=>(r >>> 32).toUInt32):=by decide +kernel
theorem D1k (k:Nat) (hk:k<8):(A4z.take k++(M1 8).drop k).set k (F8 W8 k >>> 32)=A4z.take (k+1)++(M1 8).drop (k+1):=by
 have hl:W8.length=8:=by decide +kernel
 refine Jn _ _ _ _ (by simp[A4z,hl]) (by simp[A4z,hl];omega) ?_;unfold A4z F8;rw[List.getElem?_map,List.getElem?_eq_getElem (by omega)];simp[hl,hk]
end Sh
open Go Go.RowKit Sh
theorem Su (x:UInt64) (w:World) :
 Calls Tryz.prog 120 #[.int .u64 (F0 x),.int .u64 32] w fun e w'=>e=.returned (.int .u64 (F0 (low x)))∧w'=w:=F2g x w
end
section
def V8 (w:World) (lo:Nat) (v:Value) (V:List UInt64):Prop:=∃c g o,v=.slice (some ⟨g,o,none⟩) 8 c∧8≤c∧c≤9223372036854775807∧lo≤g∧g<w.heap.size∧∀j,j<8→w.cell? ⟨g,o+j,none⟩=some (.int .u64 (F0 (F8 V j)))
section
variable {w w' : World} {lo : Nat} {v : Value} {V : List UInt64}
theorem V8.of_sl (h:Sl w lo w.heap.size v (C9 V)) (hV:V.length=8):V8 w lo v V:=by
 obtain⟨A,c,h1,h2,h3,h4⟩:=h;have hl:(C9 V).length=8:=by simp[C9,hV]
 rw[hl]at h1 h2;obtain⟨g,o,rfl,aA,hg,hc⟩:=h4.some (by omega);exact ⟨c,g,o,h1,h2,by unfold maxLen at h3;exact h3,aA,hg,fun j hj=>hc j _ (J6 (by omega))⟩
theorem V8.drewN (h:V8 w lo v V) (n:Nat):V8 (w.drewN n) lo v V:=h
theorem V8.less {lo':Nat} (h:V8 w lo v V) (hl:lo'≤lo):V8 w lo' v V:=by
 obtain⟨c,g,o,h1,h2,h3,h4,h5,h6⟩:=h;exact ⟨c,g,o,h1,h2,h3,by omega,h5,h6⟩
theorem V8.far (h:V8 w lo v V) {p:Addr} (hp:p.block<lo) (u:Value):V8 (w.setCell p u) lo v V:=by
 obtain⟨c,g,o,h1,h2,h3,h4,h5,h6⟩:=h;exact ⟨c,g,o,h1,h2,h3,h4,by simpa using h5,fun j hj=>(World.cell?_of_block (Below.heap_setCell w p u g (by omega))).trans (h6 j hj)⟩
theorem V8.new (W:World) (V:List UInt64) (hV:V.length=8):V8 (W.alloc (.cells (C9 V).toArray 117)) W.heap.size (.slice (some ⟨W.heap.size,0,none⟩) 8 8) V:=
 ⟨8,W.heap.size,0,rfl,Nat.le_refl _,by omega,Nat.le_refl _,by simp,fun j hj=>(Bk.new W 117 (C9 V)).at_ (by rw[Nat.zero_add];exact J6 (by omega))⟩
end
theorem B7k (S:List UInt32) (k j:Nat) (hk:k<S.length) (hj:j<4) (x:UInt8) (hx:(Og (Z1 S k))[j]?=some x):(Dh S).take (4*k+j)++[x]=(Dh S).take (4*k+(j+1)):=by
 rw[show 4*k+(j+1)=(4*k+j)+1 by omega,List.take_add_one,B5f S k j hk hj,hx];rfl
theorem D2e (x:UInt32) (s:Nat) (hs:s<32):(x.toUInt64 >>> UInt64.ofNat s).toUInt8=(x >>> UInt32.ofNat s).toUInt8:=by
 rw[D2h x s hs];generalize x >>> UInt32.ofNat s=y;simp
def sh8 (x:UInt64) (s:Nat):UInt64:=x >>> UInt64.ofNat (8*s)
@[go_sem ↓ high] theorem E1w (x : UInt64) (k : IntKind) (s : Nat) (hs : s < 8) : Op.shift .shr .u64 (F0 x) k (8 * (s : Int)) = pure (.int .u64 (F0 (sh8 x s))) := by
 have e:(8:Int)*(s:Int)=((8*s:Nat):Int):=by omega
 rw[e];exact Cp x k (8*s) (by omega)
theorem C4r (x:UInt32) (s:Nat) (hs:s<4):(Og x)[3-s]?=some (sh8 x.toUInt64 s).toUInt8:=by
 unfold sh8;rw[D2e x (8*s) (by omega)];have h:s=0∨s=1∨s=2∨s=3:=by omega
 rcases h with rfl | rfl | rfl | rfl
 ·show some x.toUInt8=some (x >>> 0).toUInt8;simp
 ·rfl
 ·rfl
 ·rfl
theorem D6b (A B:List UInt64) (k:Nat) (hk:k<A.length):F8 (A.take k++B.drop k) k=F8 B k:=B2g A B k hk
end
def Mu:Code→List Code
 | .loop c=>.loop c::Mu c
 | .seq a b=>Mu a++Mu b
 | .block _ c=>Mu c
 | .scope c=>Mu c
 | .cond _ a b=>Mu a++Mu b
 | _=>[]
noncomputable def Ui (k:Nat):Code:=(Tryz.f87.body.bind fun c=>(Mu c)[k]?).getD .skip
def A2q:List Value:=[.int .u64 2,.int .u64 13,.int .u64 22,.int .u64 6,.int .u64 11,.int .u64 25,.int .u64 7,.int .u64 18,.int .u64 3,.int .u64 17,.int .u64 19,.int .u64 10]
set_option maxRecDepth 1000000 in
theorem C5r {s0 s2 s3 s4 s9 s10 s11 s13 s17 s18 s19 s20 s21 s22 s23 s24 s25 s26 s27 s28 s29 s30 s31 s32 s33 s34 s35 s36 s37 s38 s39 s40 s41 s42 s43 s44 s45 s46 s47 s48 s49 s50 s51 s52 s53 s54 s55 s56 s57 s58 s59 s60 s61 s62 s63 s64 s65 s66 s67 s68 s69 s70 s71 s72 s73 s74 s75 s76 s77 s78 s79 s80 s81 s82 s83 s84 s85 s86 s87 s88 s89 s90 s91 s92 s93 s94 s95 s96 s97 s98 s99 s100 s101 s102 s103 s104 s105 s106 s107 s108 s109 s110 s111 s112 s113 s114 s115 s116 s117 s118 s119 s120 s121 s122 s123 s124 s125 s126 s127 s128 s129 s130 s131 s132 s133 s134 s135 s136 s137 s138 s139 s140 s141 s142 s143 s144 s145 s146 s147 s148 s149 s150 s151 s152 s153 s154 s155 s156 s157 s158 s159 s160 s161 s162 s163 s164 s165 s166 s167 s168 s169 s170 s171 s172 s173 s174 s175 s176 s177 s178 s179 s180 s181 s182 s183 s184 s185 s186 s187 s188 s189 s190 s191 s192 s193 s194 s195 s196 s197 s198 s199 s200 s201 s202 s203 s204 s205 s206 s207 s208 s209 s210 s211 s212 s213 s214 s215 s216 s217 s218 s219 s220 s221 s222 s223 s224 s225 s226 s227 s228 s229 s230 s231 s232 s233 s234 s235 s236 s237 s238 s239 s240 s241 s242 s243 s244 s245 s246 s247 s248 s249 s250 s251 s252 s253 s254 s255 s256 s257 s258 s259 s260 s261 s262 s263 s264 s265 s266 s267 s268 s269 s270 s271 s272 s273 s274 s275 s276 s277 s278 s279 s280 s281 s282 s283 s284 s285 s286 s287 s288 s289 s290 s291 s292 s293 s294 s295 s296 s297 s298 s299 s300 s301 s302 s303 s304 s305 s306 s307 s308 s309 s310 s311 s312 s313 s314 s315 s316 s317 s318 s319 s320 s321 s322 s323 s324 s325 s326 s327 s328 s329 s330 s331 s332 s333 s334 s335 s336 s337 s338 s339 s340 s341 s342 s343 s344 s345 s346 s347 s348 s349 s350 s351 s352 s353 s354 s355 s356 s357 s358:Value} {Q:Exit→Act→World→Prop} {g o L c gn gh gx i:Nat} {w3 w0:World} (S:List UInt32) (q:List UInt8)
 (WS:Nat→List UInt32) (Hlen:Hid (∀t,(WS t).length=t)) (Hlow:Hid (∀t,t<16→(up (WS (t+1)))=(up (WS t))++[pw 4 q t 4])) (Hhigh:Hid (∀t,16≤t→(up (WS (t+1)))=(up (WS t))++[low ((Tf (Z1 (WS t) (t-2)) 17 19 10 true).toUInt64+(Z1 (WS t) (t-7)).toUInt64+(Tf (Z1 (WS t) (t-15)) 7 18 3 true).toUInt64+(Z1 (WS t) (t-16)).toUInt64)])) (hgx:gh<gx) (hL:64*i+64≤L) (hLc:L≤c) (hc:c≤9223372036854775807)
 (hqc:∀W:World,Below gh w3 W→∀k,k<64→W.cell? ⟨g,o+(64*i+k),none⟩=some (.int .u8 (n8 (g8 q k))))
 (X0:Bk w0 gx 117 (C9 (xs 64 (up (WS 0))))) (H0:Bk w0 gh 117 (C9 (up (S)))) (D0:Below gh w3 w0)
 (hexit:∀(x17 x105 x106 x107 x108 x109 x110 x111 x112 x113 x114 x115 x116 x117 x118 x119 x120 x121 x122 x123 x124 x125 x126 x127 x128 x129 x130 x131 x132 x133:Value) (w':World),Bk w' gx 117 (C9 (xs 64 (up (WS 16))))→Bk w' gh 117 (C9 (up (S)))→Below gh w3 w'→Q (.exit 8) ⟨(s0 :: .int .u64 32::s2::s3::s4 :: .slice (some ⟨gn,0,none⟩) 12 12 :: .int .i64 64 :: .int .i64 4 :: .slice (some ⟨g,o,none⟩) L c::s9::s10::s11 :: .slice (some ⟨gh,0,none⟩) 8 8::s13 :: .int .i64 (64*(i:Int)) :: .slice (some ⟨gx,0,none⟩) 64 64 :: .int .i64 16::x17::s18::s19::s20::s21::s22::s23::s24::s25::s26::s27::s28::s29::s30::s31::s32::s33::s34::s35::s36::s37::s38::s39::s40::s41::s42::s43::s44::s45::s46::s47::s48::s49::s50::s51::s52::s53::s54::s55::s56::s57::s58::s59::s60::s61::s62::s63::s64::s65::s66::s67::s68::s69::s70::s71::s72::s73::s74::s75::s76::s77::s78::s79::s80::s81::s82::s83::s84::s85::s86::s87::s88::s89::s90::s91::s92::s93::s94::s95::s96::s97::s98::s99::s100::s101::s102::s103::s104::x105::x106::x107::x108::x109::x110::x111::x112::x113::x114::x115::x116::x117::x118::x119::x120::x121::x122::x123::x124::x125::x126::x127::x128::x129::x130::x131::x132::x133::s134::s135::s136::s137::s138::s139::s140::s141::s142::s143::s144::s145::s146::s147::s148::s149::s150::s151::s152::s153::s154::s155::s156::s157::s158::s159::s160::s161::s162::s163::s164::s165::s166::s167::s168::s169::s170::s171::s172::s173::s174::s175::s176::s177::s178::s179::s180::s181::s182::s183::s184::s185::s186::s187::s188::s189::s190::s191::s192::s193::s194::s195::s196::s197::s198::s199::s200::s201::s202::s203::s204::s205::s206::s207::s208::s209::s210::s211::s212::s213::s214::s215::s216::s217::s218::s219::s220::s221::s222::s223::s224::s225::s226::s227::s228::s229::s230::s231::s232::s233::s234::s235::s236::s237::s238::s239::s240::s241::s242::s243::s244::s245::s246::s247::s248::s249::s250::s251::s252::s253::s254::s255::s256::s257::s258::s259::s260::s261::s262::s263::s264::s265::s266::s267::s268::s269::s270::s271::s272::s273::s274::s275::s276::s277::s278::s279::s280::s281::s282::s283::s284::s285::s286::s287::s288::s289::s290::s291::s292::s293::s294::s295::s296::s297::s298::s299::s300::s301::s302::s303::s304::s305::s306::s307::s308::s309::s310::s311::s312::s313::s314::s315::s316::s317::s318::s319::s320::s321::s322::s323::s324::s325::s326::s327::s328::s329::s330::s331::s332::s333::s334::s335::s336::s337::s338::s339::s340::s341::s342::s343::s344::s345::s346::s347::s348::s349::s350::s351::s352::s353::s354::s355::s356::s357::s358::[]).toArray,[]⟩ w') :
 Code.wp Tryz.prog (Ui 4) Q ⟨(s0 :: .int .u64 32::s2::s3::s4 :: .slice (some ⟨gn,0,none⟩) 12 12 :: .int .i64 64 :: .int .i64 4 :: .slice (some ⟨g,o,none⟩) L c::s9::s10::s11 :: .slice (some ⟨gh,0,none⟩) 8 8::s13 :: .int .i64 (64*(i:Int)) :: .slice (some ⟨gx,0,none⟩) 64 64 :: .int .i64 0::s17::s18::s19::s20::s21::s22::s23::s24::s25::s26::s27::s28::s29::s30::s31::s32::s33::s34::s35::s36::s37::s38::s39::s40::s41::s42::s43::s44::s45::s46::s47::s48::s49::s50::s51::s52::s53::s54::s55::s56::s57::s58::s59::s60::s61::s62::s63::s64::s65::s66::s67::s68::s69::s70::s71::s72::s73::s74::s75::s76::s77::s78::s79::s80::s81::s82::s83::s84::s85::s86::s87::s88::s89::s90::s91::s92::s93::s94::s95::s96::s97::s98::s99::s100::s101::s102::s103::s104::s105::s106::s107::s108::s109::s110::s111::s112::s113::s114::s115::s116::s117::s118::s119::s120::s121::s122::s123::s124::s125::s126::s127::s128::s129::s130::s131::s132::s133::s134::s135::s136::s137::s138::s139::s140::s141::s142::s143::s144::s145::s146::s147::s148::s149::s150::s151::s152::s153::s154::s155::s156::s157::s158::s159::s160::s161::s162::s163::s164::s165::s166::s167::s168::s169::s170::s171::s172::s173::s174::s175::s176::s177::s178::s179::s180::s181::s182::s183::s184::s185::s186::s187::s188::s189::s190::s191::s192::s193::s194::s195::s196::s197::s198::s199::s200::s201::s202::s203::s204::s205::s206::s207::s208::s209::s210::s211::s212::s213::s214::s215::s216::s217::s218::s219::s220::s221::s222::s223::s224::s225::s226::s227::s228::s229::s230::s231::s232::s233::s234::s235::s236::s237::s238::s239::s240::s241::s242::s243::s244::s245::s246::s247::s248::s249::s250::s251::s252::s253::s254::s255::s256::s257::s258::s259::s260::s261::s262::s263::s264::s265::s266::s267::s268::s269::s270::s271::s272::s273::s274::s275::s276::s277::s278::s279::s280::s281::s282::s283::s284::s285::s286::s287::s288::s289::s290::s291::s292::s293::s294::s295::s296::s297::s298::s299::s300::s301::s302::s303::s304::s305::s306::s307::s308::s309::s310::s311::s312::s313::s314::s315::s316::s317::s318::s319::s320::s321::s322::s323::s324::s325::s326::s327::s328::s329::s330::s331::s332::s333::s334::s335::s336::s337::s338::s339::s340::s341::s342::s343::s344::s345::s346::s347::s348::s349::s350::s351::s352::s353::s354::s355::s356::s357::s358::[]).toArray,[]⟩ w0:=by
 conv=>arg 2;whnf
 go_loopw [16] (fun t wr=>∃t':Nat,t'≤16∧t=.int .i64 (t':Int)∧Bk wr gx 117 (C9 (xs 64 (up (WS t'))))∧Bk wr gh 117 (C9 (up (S)))∧Below gh w3 wr) (fun t _=>16-(intOf t).toNat)
 case atStart=>exact ⟨0,by omega,rfl,X0,H0,D0⟩
 case round=>
  clear X0 H0 D0;obtain⟨t,ht,rfl,Xr,Hr,Dr⟩:=hrel;have aA:(up (WS t)).length=t:=by rw[Gj];exact Hlen.out t
  by_cases ht16:t<16
  ·have aB:(xs 64 (up (WS t))).set t (pw 4 q t 0)=xs 64 (up (WS t)):=D7i 64 _ t aA (by omega);have aC:(xs 64 (up (WS t))).set t (pw 4 q t 4)=xs 64 (up (WS (t+1))):=by rw[B9o 64 _ t _ aA (by omega),Hlow.out t ht16]
   have aD:(xs 64 (up (WS t))).length=64:=Zp 64 _ (by omega);have aE:=Lib.hid aB;have aF:=Lib.hid aC;clear aB aC;go_wp2_with fail;go_loopw [17] (fun j wr=>∃j':Nat,j'≤4∧j=.int .i64 (j':Int)∧Bk wr gx 117 (C9 ((xs 64 (up (WS t))).set t (pw 4 q t j')))∧Bk wr gh 117 (C9 (up (S)))∧Below gh w3 wr) (fun j _=>4-(intOf j).toNat)
   case atStart=>exact ⟨0,by omega,rfl,by rw[aE.out];exact Xr,Hr,Dr⟩
   case round=>
    clear Xr Hr Dr;obtain⟨b,aG,rfl,Xr,Hr,Dr⟩:=hrel;by_cases hb:b<4
    ·have eb:wr.cell? ⟨g,o+(64*i+t*4+b),none⟩=some (.int .u8 (n8 (g8 q (4*t+b)))):=by rw[show 64*i+t*4+b=64*i+(4*t+b) by omega];exact hqc _ Dr _ (by omega)
     have ex:wr.cell? ⟨gx,t,none⟩=some (.int .u64 (F0 (pw 4 q t b))):=Xr.at_ (by rw[J6 (by rw[List.length_set];omega)];unfold F8;simp[aD,show t<64 by omega]);have ef:=Xr.frozen t;have aH:64*i+t*4+b<L:=by omega
     go_wp2_with fail;refine Af 20 (by kernel_rfl) (by kernel_rfl) ?_;simp only[List.take_succ_cons,List.take_zero,List.drop_succ_cons,List.drop_zero];repeat (go_big_quiet_step (fail))
     refine wpQuiet_nil ?_;rintro w' ⟨nq,rfl⟩;go_wp2_with fail;go_roundw;case rel=>
      refine ⟨b+1,by omega,by go_num,?_,(Hr.drewN nq).far (by simp;omega) _,(K9 Dr nq).setCell (by simp;omega) _⟩;have h1:=(Xr.drewN nq).set_ t (.int .u64 (F0 (pw 4 q t (b+1))));rw[Cz,List.set_set]at h1;exact h1
     case measure=>simp[intOf];omega
    ·obtain rfl:b=4:=by omega
     rw[aF.out]at Xr;go_wp2_with fail;go_roundw;case rel=>exact ⟨t+1,by omega,by go_num,Xr,Hr,Dr⟩
     case measure=>simp[intOf];omega
  ·obtain rfl:t=16:=by omega
   have eR:((16:Nat):Int)=16:=rfl;rw[eR];clear eR;go_wp2_with fail;apply hexit
   ·exact Xr
   ·exact Hr
   ·exact Dr
end Go.Proofs.YtlegpkdighoflaaGreat
