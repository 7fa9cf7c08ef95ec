/- A part of the proof of AuditTells. -/
import Derived.Test.YtmllnpokbbabhaaGreatTam
set_option linter.unusedVariables false
set_option linter.unusedSimpArgs false
set_option maxRecDepth 100000
set_option maxHeartbeats 40000000
namespace Go.Proofs.YtmllnpokbbabhaaGreat
open Go Go.RowKit Sh
section
section
variable (w : World) (ρ : Operand → Value) (dst : Option Tmp) (ty : TypeId) (pos : String) (after : Array Edge) (guard : Option (Nat × Bool))
@[go_sem ↓ high] theorem E2y (x ix : Operand) :
 (execOp ρ { dst,op:=.index 245 x ix,type:=ty,pos,after,guard }).run Tryz.prog w=A6k 4 w (O9 Tryz.prog ρ { dst,op:=.index 245 x ix,type:=ty,pos,after,guard } w) (ρ x) (ρ ix):=
 Vl w ρ dst ty pos after guard 245 _ 4 x ix Tryz.underlying245 (by kernel_rfl) (by kernel_rfl)
end
def Ki:List UInt64:=[6346243789798364141,1503914060200516822,0,1152921504606846976]
@[simp, go_sem] theorem B2l : Ki.length = 4 := rfl
attribute [irreducible] Ki
theorem C2z (w:World):Calls Tryz.prog 209 #[] w fun e w'=>e=.returned (H7 Ki)∧Below w.heap.size w w':=by
 obtain⟨W0,aA⟩:∃z,z=w.alloc (Obj.cells (E4 (T9 4)).toArray 245):=⟨_,rfl⟩;have B0:Below w.heap.size w W0:=by rw[aA];exact (Below.refl _ _).alloc (Nat.le_refl _) _
 have R0:Bk W0 w.heap.size 245 (E4 (T9 4)):=by rw[aA];exact Bk.new w _ _
 have aB:F9 W0 ⟨w.heap.size,0,none⟩ 4=true:=R0.can (by simp);rw[aA]at aB;have e0:Bh (.int .u64 6346243789798364141)=some 6346243789798364141:=Ps 6346243789798364141;have e1:Bh (.int .u64 1503914060200516822)=some 1503914060200516822:=Ps 1503914060200516822;have e2:Bh (.int .u64 0)=some 0:=Ps 0;have e3:Bh (.int .u64 1152921504606846976)=some 1152921504606846976:=Ps 1152921504606846976;have aC:∀(W:World) (raw:Result Next),We W raw (.int .u64 6346243789798364141) (.int .u64 1503914060200516822) (.int .u64 0) (.int .u64 1152921504606846976)=.ok (.value (H7 Ki)) W:=fun W raw=>by
  unfold We Ki;rw[e0,e1,e2,e3]
 clear e0 e1 e2 e3;have hm:Ki.length=4:=B2l;go_enter Tryz.func209,Tryz.ntmps209;go_wp2_with fail;rw[←aA];refine bodyPost_ret (C7 rfl _ _ _ _ _ _ rfl (R0.puts (vs:=E4 Ki) (by simp)) Tryz.underlying245 rfl (by simp[Vq])) rfl ⟨rfl,C0 B0 (Nat.le_refl _) _⟩
def B3i (w l:List UInt64):Nat→UInt64
 | 0=>0
 | i+1=>C3v (E0 w i) (E0 l i) (B3i w l i)
def C4v (w l:List UInt64) (j:Nat):UInt64:=C4p (E0 w j) (E0 l j) (B3i w l j)
def D7u (w l:List UInt64):List UInt64:=Jh (C4v w l) (fun _=>0) 4 4
@[simp, go_sem] theorem D6n (w l : List UInt64) : (D7u w l).length = 4 := Qk _ _ _ _
theorem D4e (w l:List UInt64):∀i,(B3i w l i).toNat≤1
 | 0=>by show (0:UInt64).toNat≤1;decide
 | i+1=>D5e _ _ _
def U4 (w:List UInt64):List UInt64:=if B3i w Ki 4=1 then w else D7u w Ki
theorem Ct {w:List UInt64} (hw:w.length=4):(U4 w).length=4:=by unfold U4;split<;>simp[hw]
theorem Pa (x:List UInt64) (hx:x.length=4) (w:World):Calls Tryz.prog 196 #[H7 x] w fun e w'=>e=.returned (H7 (U4 x))∧Below w.heap.size w w':=by
 obtain⟨W0,aB⟩:=D9 (((w.alloc (Obj.cells (E4 x).toArray 245)).alloc (Obj.cells (E4 (T9 4)).toArray 245)).alloc (Obj.cells (E4 (T9 4)).toArray 245));have hL:W0=Z0 w [(245,E4 x),(245,E4 (T9 4)),(245,E4 (T9 4))]:=aB;have B0:=BL' hL;have A0:=KZ' hL rfl;have R0:=KL' 1 hL rfl;have D0:=KL' 2 hL rfl;clear hL;go_enter Tryz.func196,Tryz.ntmps196;go_wp2_with fail;rw[←aB];clear aB;refine (C2z W0).mono ?_;rintro e w1 ⟨rfl,b1⟩;have A1:=A0.bl b1;have R1:=R0.bl b1;have D1:=D0.bl b1;have B1:=X4 B0 b1;clear A0 R0 D0 B0 b1;go_wp2_with fail;rw[←B8m (f:=C4v x Ki)]at D1;go_loopw [8,4] (fun t q wr=>∃i:Nat,i≤4∧t=.int .i64 (i:Int)∧q=.int .u64 (E6 (B3i x Ki i))∧Bk wr w.heap.size 245 (E4 x)∧Bk wr (w.heap.size+1) 245 (E4 (T9 4))∧Bk wr (w.heap.size+2) 245 (E4 (Jh (C4v x Ki) (fun _=>0) 4 i))∧Below w.heap.size w wr) (fun t _ _=>4-(intOf t).toNat)
 case atStart=>exact ⟨0,by omega,rfl,rfl,A1,R1,D1,B1⟩
 case round=>
  clear A1 R1 D1 B1;obtain⟨i,hi,rfl,rfl,K,R,D,B⟩:=hrel;by_cases hlt:i<4
  ·have k0:=K.at_ (Q1 (l:=x) (i:=i) (by omega));have f0:=D.frozen i;have aE:=D4e x Ki i;have D3:=D.set_ i (.int .u64 (E6 (C4p (E0 x i) (E0 Ki i) (B3i x Ki i))));rw[Fv,A1l (f:=C4v x Ki) (g:=fun _=>0) (x:=C4p (E0 x i) (E0 Ki i) (B3i x Ki i)) hlt rfl]at D3;have d0:=D.at_ (Q1 (l:=Jh (C4v x Ki) (fun _=>0) 4 i) (i:=i) (by simpa using hlt));clear D;go_wp2_with fail;go_roundw;case rel=>exact ⟨i+1,by omega,by go_num,rfl,K.far (by show w.heap.size≠w.heap.size+2;omega) _,R.far (by simp) _,D3,B.setCell (by show w.heap.size≤w.heap.size+2;omega) _⟩
   case measure=>simp[intOf];omega
  ·obtain rfl:i=4:=by omega
   have e5:((4:Nat):Int)=4:=rfl;rw[e5];clear e5;have rk:=K.row64 (n:=4) hx;have rd:=D.row64 (n:=4) (by simp);have rc:=Nn 4 R (by simp);obtain⟨dd,aA⟩:=D9 (Jh (C4v x Ki) (fun _=>0) 4 4);have aD:dd.length=4:=by rw[aA];simp
   obtain⟨bb,aC⟩:=D9 (B3i x Ki 4);have he:U4 x=if bb=1 then x else dd:=by rw[aC,aA];rfl
   rw[←aA]at rd D;rw[←aC];clear aA aC;have h1:(E6 bb==1)=true→U4 x=x:=fun h=>by
    rw[he,if_pos];have e1:E6 1=1:=rfl;exact B0n (by rw[e1];exact eq_of_beq h)
   have h2:(E6 bb==1)=false→U4 x=dd:=fun h=>by
    rw[he,if_neg];intro e;rw[e]at h;exact absurd h (by decide)
   clear he;go_wp2_with fail
   ·have hb:(E6 bb==1)=true:=by first | assumption | simpa using ‹_›
    refine bodyPost_ret (C7 rfl _ _ _ _ _ _ rfl (R.puts (vs:=E4 x) (by simp[hx])) Tryz.underlying245 rfl (by simp[Vq,hx])) rfl ⟨by rw[h1 hb];rfl,C0 B (by simp) _⟩
   ·have hb:(E6 bb==1)=false:=by first | assumption | simpa using ‹_›
    refine bodyPost_ret (C7 rfl _ _ _ _ _ _ rfl (R.puts (vs:=E4 dd) (by simp[aD])) Tryz.underlying245 rfl (by simp[Vq,aD])) rfl ⟨by rw[h2 hb];rfl,C0 B (by simp) _⟩
end
def Ew (a:List UInt64):List UInt8:=A0g a 32
@[simp, go_sem] theorem Ae (a : List UInt64) : (Ew a).length = 32 := Pm _ _
theorem Rn (a:List UInt64) (ha:a.length=4) (w:World):Calls Tryz.prog 158 #[H7 a] w fun e w'=>e=.returned (A8 (Ew a))∧Below w.heap.size w w':=by
 obtain⟨W0,aA⟩:=D9 (((w.alloc (Obj.cells (E4 a).toArray 247)).alloc (Obj.cells (c8 (z8 32)).toArray 40)).alloc (Obj.cells (c8 (z8 32)).toArray 40));have hL:W0=Z0 w [(247,E4 a),(40,c8 (z8 32)),(40,c8 (z8 32))]:=aA;have B0:=BL' hL;have D0:=KZ' hL rfl;have R0:=KL' 1 hL rfl;have O0:=KL' 2 hL rfl;clear hL;go_enter Tryz.func158,Tryz.ntmps158;go_wp2_with fail;rw[←aA];clear aA;rw[←A7b (f:=C3a a)]at O0;go_loopw [5] (fun t wr=>∃i:Nat,i≤32∧t=.int .i64 (i:Int)∧Bk wr w.heap.size 247 (E4 a)∧Bk wr (w.heap.size+2) 40 (c8 (He (C3a a) 32 i))∧Bk wr (w.heap.size+1) 40 (c8 (z8 32))∧Below w.heap.size w wr) (fun t _=>32-(intOf t).toNat)
 case atStart=>exact ⟨0,by omega,rfl,D0,O0,R0,B0⟩
 case round=>
  clear D0 O0 R0 B0;obtain⟨i,hi,rfl,D,O,R,B⟩:=hrel;by_cases hlt:i<32
  ·have aE:(i:Int) / 8=((i / 8:Nat):Int):=by omega
   have aF:(i:Int) % 8=((i % 8:Nat):Int):=by omega
   have hx:C3a a i=(E0 a (i / 8) >>> UInt64.ofNat (8*(i % 8))).toUInt8:=rfl;have d0:=D.at_ (Q1 (l:=a) (i:=i / 8) (by omega));have o0:=O.at_ (Nh (l:=He (C3a a) 32 i) (i:=i) (by simpa using hlt));have f0:=O.frozen i;have aG:i / 8<4:=by omega
   have aH:i % 8<8:=by omega
   have HX:=Lib.hid hx;have O3:=O.set_ i (.int .u8 (n8 (E0 a (i / 8) >>> UInt64.ofNat (8*(i % 8))).toUInt8));rw[Lp,C0z (f:=C3a a) hlt HX.out.symm]at O3;clear hx;generalize i / 8=qq at *;generalize i % 8=rr at *;obtain⟨ss,aB⟩:=D9 (8*rr);have h8:8*(rr:Int)=(ss:Int):=by omega
   have aC:ss<64:=by omega
   rw[←aB]at O3;clear HX aB;go_wp2_with fail;go_roundw;case rel=>exact ⟨i+1,by omega,by go_num,D.far (by show w.heap.size≠w.heap.size+2;omega) _,O3,R.far (by show w.heap.size+1≠w.heap.size+2;omega) _,B.setCell (by show w.heap.size≤w.heap.size+2;omega) _⟩
   case measure=>simp[intOf];omega
  ·obtain rfl:i=32:=by omega
   have hO:Bk wr (w.heap.size+2) 40 (c8 (Ew a)):=O;have ro:=hO.row8 (n:=32) (by simp);have aD:=Nn 32 R (by simp);have e5:((32:Nat):Int)=32:=rfl;rw[e5];clear e5 O hO D;go_wp2_with fail;refine bodyPost_ret (C7 rfl _ _ _ _ _ _ rfl (R.puts (vs:=c8 (Ew a)) (by simp)) Tryz.underlying40 rfl (by simp[H9])) rfl ⟨rfl,C0 B (by simp) _⟩
end Go.Proofs.YtmllnpokbbabhaaGreat
