/- A part of the proof of ClientForks. -/
import Derived.WalkKit
import Derived.WalkLawsBesides
import Derived.Lib.Hide
import Derived.Deep.OwnRows
import Derived.Test.YtdfpoofbgjilgaaGreatVal
set_option linter.unusedVariables false
set_option linter.unusedSimpArgs false
set_option maxRecDepth 100000
set_option maxHeartbeats 40000000
namespace Go.Proofs.YtdfpoofbgjilgaaGreat
open Go Go.RowKit Sh
namespace Sh
end Sh
@[go_sem ↓ high] theorem F0z (x : UInt64) : Op.intDiv .rem .u64 (C8 x) 4294967296 = pure (.int .u64 (C8 (x % 4294967296))) := by
 unfold Op.intDiv C8;rw[if_neg (by decide),UInt64.toNat_mod];congr 2
@[go_sem ↓ high] theorem C4s (x : UInt64) : Op.intDiv .rem .u64 (C8 x) 256 = pure (.int .u64 (C8 (x % 256))) := by
 unfold Op.intDiv C8;rw[if_neg (by decide),UInt64.toNat_mod];congr 2
@[go_sem ↓ high] theorem E3m (x : UInt64) : Op.intArith .mul .u64 (C8 x) 256 = pure (.int .u64 (C8 (x * 256))) := A5w x 256
@[go_sem ↓ high] theorem F1q (x : UInt64) : Op.intArith .mul .u64 (C8 x) 8 = pure (.int .u64 (C8 (x * 8))) := A5w x 8
@[go_sem ↓ high] theorem C2g (x : UInt64) : Op.intDiv .quo .u64 (C8 x) 256 = pure (.int .u64 (C8 (x / 256))) := by
 have h:=Eb (x.toNat / 256);have hx:=Hi x;have e:Op.intDiv .quo .u64 (C8 x) 256=pure (.int .u64 (IntKind.u64.wrap ((x.toNat / 256:Nat):Int))):=rfl;rw[e,h,Nat.mod_eq_of_lt (by omega)];unfold C8;rw[UInt64.toNat_div];rfl
namespace Sh
def up (S:List UInt32):List UInt64:=S.map (·.toUInt64)
def sd (N:UInt64):Nat→UInt64
 | 0=>N
 | j+1=>sd N j / 256
def lb (N:UInt64):Nat→List UInt8
 | 0=>[]
 | j+1=>(sd N j % 256).toUInt8::lb N j
def fl (L:Nat) (N:UInt64) (r:Nat):List UInt8:=List.replicate r 0++lb N (L-r)
end Sh
section
theorem By.alloc {w:World} {lo B:Nat} {v:Value} {l:List UInt8} (h:By w lo B v l) (hB:B≤w.heap.size) (o:Obj):By (w.alloc o) lo B v l:=h.below (((Below.refl _ _).alloc (Nat.le_refl _) _).mono hB)
theorem C9s:(Tryz.prog.info? 104).map (fun i=>(i.zero,i.size,i.bytes))=some (some (.int .u64 0),1,8):=by kernel_rfl
theorem E9k (n:Nat):madeCells #[.int .u8 0] n=(c8 (z8 n)).toArray:=by
 apply Array.ext';simp only[madeCells,c8,z8];apply List.ext_getElem
 ·simp
 ·intro i h1 h2;simp at h1;have e:v8 0=.int .u8 0:=rfl;simp[Nat.mod_one,e]
theorem D9z (n:Nat):madeCells #[.int .u64 0] n=(E4 (J7 n)).toArray:=by
 apply Array.ext';simp only[madeCells,E4,J7];apply List.ext_getElem
 ·simp
 ·intro i h1 h2;simp at h1;have e:Us 0=.int .u64 0:=rfl;simp[Nat.mod_one,e]
section
variable {ops : Array Oper} {rest : List Oper} {o : Oper} {a : Act} {w : World} {Q : Exit → Act → World → Prop}
theorem A7p (hg:o.guard=none) (l c:Operand) (hop:o.op=.makeSlice 29 l c) (n:Nat) (kl kc:IntKind) (hl:a.eval l=.int kl (n:Int)) (hc:a.eval c=.int kc (n:Int)) (hn:n≤1000000)
 (hK:wpList Tryz.prog ops Q rest (a.put o.dst (.slice (some ⟨w.heap.size,0,none⟩) n n)) (w.alloc (.cells (c8 (z8 n)).toArray 5))):wpList Tryz.prog ops Q (o::rest) a w:=by
 obtain⟨i,hi,hz⟩:=Option.map_eq_some_iff.1 A5k;simp only[Prod.mk.injEq]at hz;refine wpList_make_row w hg l c _ hop _ i _ Tryz.underlying29 hi hz.1 hz.2.1 rfl kl kc n hl hc (by rw[hz.2.2];omega) (by omega) ?_;rw[E9k];exact hK
theorem A2v (hg:o.guard=none) (l c:Operand) (hop:o.op=.makeSlice 285 l c) (n:Nat) (kl kc:IntKind) (hl:a.eval l=.int kl (n:Int)) (hc:a.eval c=.int kc (n:Int)) (hn:n≤1000000)
 (hK:wpList Tryz.prog ops Q rest (a.put o.dst (.slice (some ⟨w.heap.size,0,none⟩) n n)) (w.alloc (.cells (E4 (J7 n)).toArray 104))):wpList Tryz.prog ops Q (o::rest) a w:=by
 obtain⟨i,hi,hz⟩:=Option.map_eq_some_iff.1 C9s;simp only[Prod.mk.injEq]at hz;refine wpList_make_row w hg l c _ hop _ i _ Tryz.underlying285 hi hz.1 hz.2.1 rfl kl kc n hl hc (by rw[hz.2.2];omega) (by omega) ?_;rw[D9z];exact hK
end
end
section
namespace Sh
def xs (L:Nat) (X:List UInt64):List UInt64:=X++J7 (L-X.length)
end Sh
open Go Go.RowKit Sh
end
def Xl (v:UInt64) (k:Nat):List UInt8:=(List.range 8).map fun j=>if 8-k≤j then g8 (J3 v) j else 0
@[simp] theorem D7l (v : UInt64) (k : Nat) : (Xl v k).length = 8 := by simp [Xl]
def Ox (v:UInt64):Nat→UInt64
 | 0=>v
 | k+1=>Ox v k / 256
theorem B3c (v:UInt64):∀k,(Ox v k).toNat=v.toNat / 256 ^ k
 | 0=>by simp[Ox]
 | k+1=>by
  show (Ox v k / 256).toNat=_;rw[UInt64.toNat_div,B3c v k,Nat.pow_succ,←Nat.div_div_eq_div_mul];rfl
theorem C3p (v:UInt64):Xl v 0=z8 8:=by
 rfl
theorem C2k (v:UInt64):Xl v 8=J3 v:=by
 simp[Xl,J3,g8,List.range_succ]
theorem D4i (v:UInt64) (j:Nat) (hj:j<8):(Ox v (7-j) % 256).toUInt8=g8 (J3 v) j:=by
 apply UInt8.toNat_inj.1;have e:∀k:Nat,k<8→((Ox v k % 256).toUInt8).toNat=v.toNat / 256 ^ k % 256:=fun k hk=>by
  rw[UInt64.toNat_toUInt8,UInt64.toNat_mod,B3c];have:(256:UInt64).toNat=256:=rfl;rw[this];omega
 rw[e _ (by omega)];have s:∀(k:Nat) (z:UInt64),k<64→z.toNat=k→((v >>> z).toUInt8).toNat=v.toNat / 2 ^ k % 256:=fun k z hk hz=>by
  rw[UInt64.toNat_toUInt8,UInt64.toNat_shiftRight,hz,Nat.mod_eq_of_lt hk,Nat.shiftRight_eq_div_pow]
 match j,hj with
 | 0,_=>exact (s 56 56 (by decide) rfl).symm
 | 1,_=>exact (s 48 48 (by decide) rfl).symm
 | 2,_=>exact (s 40 40 (by decide) rfl).symm
 | 3,_=>exact (s 32 32 (by decide) rfl).symm
 | 4,_=>exact (s 24 24 (by decide) rfl).symm
 | 5,_=>exact (s 16 16 (by decide) rfl).symm
 | 6,_=>exact (s 8 8 (by decide) rfl).symm
 | 7,_=>show v.toNat / 256 ^ 0 % 256=(v.toUInt8).toNat;rw[UInt64.toNat_toUInt8];simp
theorem C4t (v:UInt64) (j:Nat) (hj:j<8):(Xl v (7-j)).set j (Ox v (7-j) % 256).toUInt8=Xl v (7-j+1):=by
 rw[D4i v j hj];apply List.ext_getElem?;intro i;unfold Xl;rw[List.getElem?_set];by_cases h:j=i
 ·subst h;rw[if_pos rfl,if_pos (by simp;omega),List.getElem?_map,List.getElem?_range (by omega)];simp only[Option.map_some];rw[if_pos (by omega)]
 ·rw[if_neg h,List.getElem?_map,List.getElem?_map];by_cases hi:i<8
  ·rw[List.getElem?_range hi];simp only[Option.map_some];congr 1;by_cases h2:8-(7-j)≤i
   ·rw[if_pos h2,if_pos (by omega)]
   ·rw[if_neg h2,if_neg (by omega)]
  ·rw[List.getElem?_eq_none (by simp;omega)];rfl
theorem C1e (v:UInt64) (k:Nat):Ox v (k+1)=Ox v k / 256:=rfl
attribute [irreducible] Xl Ox
theorem B2p (v:UInt64) (w:World):Calls Tryz.prog 64 #[.int .u64 (C8 v)] w fun e w'=>∃u,e=.returned u∧I5 w' w.heap.size u (J3 v)∧Below w.heap.size w w':=by
 obtain⟨W0,aB⟩:∃x,x=w.alloc (Obj.cells (c8 (z8 8)).toArray 5):=⟨_,rfl⟩;have B0:Below w.heap.size w W0:=by rw[aB];exact (Below.refl _ _).alloc (Nat.le_refl _) _
 have K0:Bk W0 w.heap.size 5 (c8 (Xl v 0)):=by rw[aB,C3p];exact Bk.new w _ _
 have S0:Ox v 0=v:=by unfold Ox;rfl
 go_enter Tryz.func64,Tryz.ntmps64;go_wp2_with (refine A7p rfl _ _ rfl 8 _ _ rfl rfl (by decide) ?_);rw[←aB];clear aB;go_loopw [0,4] (fun x i wr=>∃j:Nat,j≤8∧x=.int .u64 (C8 (Ox v (8-j)))∧i=.int .i64 ((j:Int)-1)∧Bk wr w.heap.size 5 (c8 (Xl v (8-j)))∧Below w.heap.size w wr) (fun _ i _=>(intOf i+1).toNat)
 case atStart=>exact ⟨8,by omega,by rw[show 8-8=0 from rfl,S0],rfl,K0,B0⟩
 case round=>
  clear K0 B0 S0;obtain⟨j,hj,rfl,rfl,K,B⟩:=hrel;cases j with
  | zero=>
   have e1:decide (0≤((0:Nat):Int)-1)=false:=by decide
   have e2:8-0=8:=rfl;rw[e2,C2k]at K;go_wp2_with fail;go_ret;exact ⟨_,rfl,⟨rfl,.inr ⟨w.heap.size,8,(c8 (J3 v)).toArray,rfl,Nat.le_refl _,K,Nat.le_refl _,by decide,rfl,rfl⟩⟩,B⟩
  | succ j=>
   have e0:(((j+1:Nat):Int)-1)=(j:Int):=by omega
   have e1:8-(j+1)=7-j:=by omega
   have e2:7-j+1=8-j:=by omega
   rw[e0];rw[e1]at K ⊢;have aA:=C4t v j (by omega);rw[e2]at aA;have hq:Ox v (8-j)=Ox v (7-j) / 256:=by rw[←e2,C1e]
   have hr:=C4s (Ox v (7-j));have hd:=C2g (Ox v (7-j));have hc:wr.cell? ⟨w.heap.size,j,none⟩=some (.int .u8 (n8 (g8 (Xl v (7-j)) j))):=K.at_ (Jo (by simp;omega));have hf:=K.frozen j;have aC:decide (0≤(j:Int))=true:=decide_eq_true (by omega);go_wp2_with fail;go_roundw;case rel=>exact ⟨j,by omega,by rw[hq],by go_num,by rw[←aA];exact (by rw[←Kj];exact K.set_ j _),B.setCell (Nat.le_refl _) _⟩
   case measure=>simp[intOf]
end Go.Proofs.YtdfpoofbgjilgaaGreat
