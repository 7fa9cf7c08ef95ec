/- A part of the proof of DirOrder. -/
import Derived.WalkKit
import Derived.WalkLawsBesides
import Derived.Lib.Hide
import Derived.Deep.OwnRows
import Derived.Test.YtlegpkdighoflaaGreatQal
set_option linter.unusedVariables false
set_option linter.unusedSimpArgs false
set_option maxRecDepth 100000
set_option maxHeartbeats 40000000
namespace Go.Proofs.YtlegpkdighoflaaGreat
open Go Go.RowKit Sh
namespace Sh
end Sh
@[go_sem ↓ high] theorem D2y (x : UInt64) : Op.intDiv .rem .u64 (J0 x) 4294967296 = pure (.int .u64 (J0 (x % 4294967296))) := by
 unfold Op.intDiv J0;rw[if_neg (by decide),UInt64.toNat_mod];congr 2
@[go_sem ↓ high] theorem D0h (x : UInt64) : Op.intDiv .rem .u64 (J0 x) 256 = pure (.int .u64 (J0 (x % 256))) := by
 unfold Op.intDiv J0;rw[if_neg (by decide),UInt64.toNat_mod];congr 2
@[go_sem ↓ high] theorem C8s (x : UInt64) : Op.intArith .mul .u64 (J0 x) 256 = pure (.int .u64 (J0 (x * 256))) := A5n x 256
@[go_sem ↓ high] theorem D3w (x : UInt64) : Op.intArith .mul .u64 (J0 x) 8 = pure (.int .u64 (J0 (x * 8))) := A5n x 8
@[go_sem ↓ high] theorem C9z (x : UInt64) : Op.intDiv .quo .u64 (J0 x) 256 = pure (.int .u64 (J0 (x / 256))) := by
 have h:=Gh (x.toNat / 256);have hx:=Jb x;have e:Op.intDiv .quo .u64 (J0 x) 256=pure (.int .u64 (IntKind.u64.wrap ((x.toNat / 256:Nat):Int))):=rfl;rw[e,h,Nat.mod_eq_of_lt (by omega)];unfold J0;rw[UInt64.toNat_div];rfl
namespace Sh
def up (S:List UInt32):List UInt64:=S.map (·.toUInt64)
def sd (N:UInt64):Nat→UInt64
 | 0=>N
 | j+1=>sd N j / 256
def lb (N:UInt64):Nat→List UInt8
 | 0=>[]
 | j+1=>(sd N j % 256).toUInt8::lb N j
def fl (L:Nat) (N:UInt64) (r:Nat):List UInt8:=List.replicate r 0++lb N (L-r)
end Sh
section
theorem By.alloc {w:World} {lo B:Nat} {v:Value} {l:List UInt8} (h:By w lo B v l) (hB:B≤w.heap.size) (o:Obj):By (w.alloc o) lo B v l:=h.below ((Bi _ _).mono hB)
theorem B8n:(Tryz.prog.info? 117).map (fun i=>(i.zero,i.size,i.bytes))=some (some (.int .u64 0),1,8):=by kernel_rfl
theorem D3u (n:Nat):madeCells #[.int .u8 0] n=(c8 (z8 n)).toArray:=by
 apply Array.ext';simp only[madeCells,c8,z8];apply List.ext_getElem
 ·simp
 ·intro i h1 h2;simp at h1;have e:v8 0=.int .u8 0:=rfl;simp[Nat.mod_one,e]
theorem C7f (n:Nat):madeCells #[.int .u64 0] n=(C9 (I3 n)).toArray:=by
 apply Array.ext';simp only[madeCells,C9,I3];apply List.ext_getElem
 ·simp
 ·intro i h1 h2;simp at h1;have e:Sz 0=.int .u64 0:=rfl;simp[Nat.mod_one,e]
section
variable {ops : Array Oper} {rest : List Oper} {o : Oper} {a : Act} {w : World} {Q : Exit → Act → World → Prop}
theorem C2h (hg:o.guard=none) (l c:Operand) (hop:o.op=.makeSlice 45 l c) (n:Nat) (kl kc:IntKind) (hl:a.eval l=.int kl (n:Int)) (hc:a.eval c=.int kc (n:Int)) (hn:n≤1000000)
 (hK:wpList Tryz.prog ops Q rest (a.put o.dst (.slice (some ⟨w.heap.size,0,none⟩) n n)) (w.alloc (.cells (c8 (z8 n)).toArray 5))):wpList Tryz.prog ops Q (o::rest) a w:=by
 obtain⟨i,hi,hz⟩:=Option.map_eq_some_iff.1 A0q;simp only[Prod.mk.injEq]at hz;refine wpList_make_row w hg l c _ hop _ i _ Tryz.underlying45 hi hz.1 hz.2.1 rfl kl kc n hl hc (by rw[hz.2.2];omega) (by omega) ?_;rw[D3u];exact hK
theorem Ze (hg:o.guard=none) (l c:Operand) (hop:o.op=.makeSlice 197 l c) (n:Nat) (kl kc:IntKind) (hl:a.eval l=.int kl (n:Int)) (hc:a.eval c=.int kc (n:Int)) (hn:n≤1000000)
 (hK:wpList Tryz.prog ops Q rest (a.put o.dst (.slice (some ⟨w.heap.size,0,none⟩) n n)) (w.alloc (.cells (C9 (I3 n)).toArray 117))):wpList Tryz.prog ops Q (o::rest) a w:=by
 obtain⟨i,hi,hz⟩:=Option.map_eq_some_iff.1 B8n;simp only[Prod.mk.injEq]at hz;refine wpList_make_row w hg l c _ hop _ i _ Tryz.underlying197 hi hz.1 hz.2.1 rfl kl kc n hl hc (by rw[hz.2.2];omega) (by omega) ?_;rw[C7f];exact hK
end
end
section
namespace Sh
def xs (L:Nat) (X:List UInt64):List UInt64:=X++I3 (L-X.length)
end Sh
open Go Go.RowKit Sh
end
section
def V8 (w:World) (lo:Nat) (v:Value) (V:List UInt64):Prop:=∃c g o,v=.slice (some ⟨g,o,none⟩) 8 c∧8≤c∧c≤9223372036854775807∧lo≤g∧g<w.heap.size∧∀j,j<8→w.cell? ⟨g,o+j,none⟩=some (.int .u64 (J0 (E9 V j)))
section
variable {w w' : World} {lo : Nat} {v : Value} {V : List UInt64}
end
end
theorem Zt (b:List UInt8) (n m g:Nat) (t:TypeId) (hb:b.length=n) (hn:n=8*m) (hm:m≤8) (w:World) (K:Bk w g t (c8 b)):Calls Tryz.prog 144 #[.slice (some ⟨g,0,none⟩) n n] w fun e w'=>∃p,e=.returned (.slice (some ⟨p,0,none⟩) m m)∧Bk w' p 117 (C9 (wl b m n))∧w.heap.size≤p∧Below w.heap.size w w':=by
 have hd:(n:Int) / 8=(m:Int):=by omega
 obtain⟨W0,aA⟩:=H8 (w.alloc (Obj.cells (C9 (I3 m)).toArray 117));have D0:=KN' aA;have K0:=Y3 aA K;have B0:=BA' aA;have hg:=K.lt;go_enter Tryz.func144,Tryz.ntmps144;go_wp2_with (refine Ze rfl _ _ rfl m _ _ rfl rfl (by omega) ?_);rw[←aA];clear aA K;go_wp2_with fail;go_loopw [12] (fun x wr=>∃i:Nat,i≤n∧x=.int .i64 (i:Int)∧Bk wr g t (c8 b)∧Bk wr w.heap.size 117 (C9 (wl b m i))∧Below w.heap.size w wr) (fun x _=>n-(intOf x).toNat)
 case atStart=>exact ⟨0,by omega,rfl,K0,D0,B0⟩
 case round=>
  clear K0 D0 B0;obtain⟨i,hi,rfl,K,D,B⟩:=hrel;by_cases hlt:i<n
  ·have aD:(i:Int) / 8=((i / 8:Nat):Int):=by omega
   have aE:(i:Int) % 8=((i % 8:Nat):Int):=by omega
   have hx:wl b m (i+1)=(wl b m i).set (i / 8) (E9 (wl b m i) (i / 8) ||| (g8 b i).toUInt64 <<< UInt64.ofNat (8*(i % 8))):=rfl;have k0:=K.at_ (Ej (l:=b) (i:=i) (by omega));have d0:=D.at_ (J1 (l:=wl b m i) (i:=i / 8) (by simp;omega));have f0:=D.frozen (i / 8);have aF:i / 8<m:=by omega
   have aG:i % 8<8:=by omega
   have D3:=D.set_ (i / 8) (.int .u64 (J0 (E9 (wl b m i) (i / 8) ||| (g8 b i).toUInt64 <<< UInt64.ofNat (8*(i % 8)))));rw[Am,←hx]at D3;have HX:=Lib.hid hx;clear hx;generalize i / 8=qq at *;generalize i % 8=rr at *;obtain⟨ss,aB⟩:=H8 (8*rr);have h8:8*(rr:Int)=(ss:Int):=by omega
   have aC:ss<64:=by omega
   rw[←aB]at D3;clear HX aB;go_wp2_with fail;go_roundw;case rel=>exact ⟨i+1,by omega,by go_num,K.far (by show g≠w.heap.size;omega) _,D3,B.setCell (by simp) _⟩
   case measure=>simp[intOf];omega
  ·obtain rfl:i=n:=by omega
   go_wp2_with fail;go_ret;exact ⟨_,rfl,D,Nat.le_refl _,B⟩
@[go_sem ↓ high] theorem D9f (x : UInt64) (k : IntKind) : Op.shift .shl .u64 (J0 x) k 1 = pure (.int .u64 (J0 (x <<< 1))) := Bw x k 1 (by decide)
def shC (r:List UInt64) (c:UInt64):Nat→UInt64
 | 0=>c
 | j+1=>E9 r j >>> (63:UInt64)
def shW (r:List UInt64) (c:UInt64) (j:Nat):UInt64:=E9 r j <<< (1:UInt64) ||| shC r c j
def B6s (r:List UInt64) (c:UInt64):List UInt64:=Cv (shW r c) (E9 r) 4 4
@[simp, go_sem] theorem A5x (r : List UInt64) (c : UInt64) : (B6s r c).length = 4 := Na _ _ _ _
def Mb (r:List UInt64) (x:UInt64):Nat→List UInt64
 | 0=>r
 | m+1=>Z8 (B6s (Mb r x m) (x >>> UInt64.ofNat (63-m) &&& 1))
theorem Qe {r:List UInt64} (hr:r.length=4) (x:UInt64):∀m,(Mb r x m).length=4
 | 0=>hr
 | m+1=>Eu (A5x _ _)
def Yx (ws:List UInt64):Nat→List UInt64
 | 0=>I3 4
 | m+1=>Mb (Yx ws m) (E9 ws (ws.length-1-m)) 64
theorem Me (ws:List UInt64):∀m,(Yx ws m).length=4
 | 0=>by simp[Yx]
 | m+1=>Qe (Me ws m) _ _
def Oy (ws:List UInt64):List UInt64:=Yx ws ws.length
theorem Gm (ws:List UInt64):(Oy ws).length=4:=Me _ _
theorem A0d (ws:List UInt64) (n g:Nat) (t:TypeId) (hn:ws.length=n) (hn8:n≤8) (w:World) (K:Bk w g t (C9 ws)):Calls Tryz.prog 139 #[.slice (some ⟨g,0,none⟩) n n] w fun e w'=>e=.returned (H7 (Oy ws))∧Below w.heap.size w w':=by
 obtain⟨W0,aD⟩:=H8 ((w.alloc (Obj.cells (C9 (I3 4)).toArray 184)).alloc (Obj.cells (C9 (I3 4)).toArray 182));have hL:W0=M2 w [(184,C9 (I3 4)),(182,C9 (I3 4))]:=aD;have B0:=Jc hL;have R0:=Jy hL rfl;have D0:=Gs 1 hL rfl;have K0:=K.bl B0;have hg:=K.lt;clear hL K;go_enter Tryz.func139,Tryz.ntmps139;go_wp2_with fail;rw[←aD];clear aD;go_loopw [4] (fun x wr=>∃m:Nat,m≤n∧x=.int .i64 ((n:Int)-1-(m:Int))∧Bk wr g t (C9 ws)∧Bk wr (w.heap.size+1) 182 (C9 (Yx ws m))∧Bk wr w.heap.size 184 (C9 (I3 4))∧Below w.heap.size w wr) (fun x _=>(intOf x+1).toNat)
 case atStart=>exact ⟨0,by omega,by simp,K0,D0,R0,B0⟩
 case round=>
  clear K0 D0 R0 B0;obtain⟨m,hm,rfl,K,D,R,B⟩:=hrel;by_cases hlt:m<n
  ·obtain⟨q,hq⟩:=H8 (n-1-m);have aE:(n:Int)-1-(m:Int)=(q:Int):=by omega
   have aL:q<ws.length:=by omega
   rw[aE];obtain⟨r0,aB⟩:=H8 (Yx ws m);have aF:r0.length=4:=by rw[aB];exact Me ws m
   obtain⟨x,hx⟩:=H8 (E9 ws q);have HN:Hid (Yx ws (m+1)=Mb r0 x 64):=Lib.hid (by rw[aB,hx,hq,←hn];rfl);rw[←aB]at D;have aM:=Lib.hid hx;clear aB hx;have D0:Bk wr (w.heap.size+1) 182 (C9 (Mb r0 x 0)):=D;have e2:(q:Int)=(n:Int)-1-(m:Int):=aE.symm;have E2:=Lib.hid e2;clear aE e2 D hq;go_wp2_with fail;go_loopw [5] (fun y wr=>∃k:Nat,k≤64∧y=.int .i64 (63-(k:Int))∧Bk wr g t (C9 ws)∧Bk wr (w.heap.size+1) 182 (C9 (Mb r0 x k))∧Bk wr w.heap.size 184 (C9 (I3 4))∧Below w.heap.size w wr) (fun y _=>(intOf y+1).toNat)
   case atStart=>exact ⟨0,by omega,rfl,K,D0,R,B⟩
   case round=>
    clear K D0 R B;obtain⟨k,hk,rfl,K,D,R,B⟩:=hrel;by_cases hlk:k<64
    ·obtain⟨s,hs⟩:=H8 (63-k);have es:63-(k:Int)=(s:Int):=by omega
     have aN:s<64:=by omega
     rw[es];obtain⟨r,hr⟩:=H8 (Mb r0 x k);have aO:r.length=4:=by rw[hr];exact Qe aF x k
     obtain⟨c0,aG⟩:=H8 (x >>> UInt64.ofNat s &&& 1);have HB:Hid (Mb r0 x (k+1)=Z8 (B6s r c0)):=Lib.hid (by rw[hr,aG,hs];rfl);have ES:=Lib.hid es;rw[←hr]at D;have k0:=K.at_ (J1 (l:=ws) (i:=q) aL);rw[←aM.out]at k0;clear hr hs es;rw[←Lt (f:=shW r c0) aO]at D;go_wp2_with fail;rw[←aG];clear k0 aG;go_loopw [27,6] (fun z c wr=>∃j:Nat,j≤4∧z=.int .i64 (j:Int)∧c=.int .u64 (J0 (shC r c0 j))∧Bk wr g t (C9 ws)∧Bk wr (w.heap.size+1) 182 (C9 (Cv (shW r c0) (E9 r) 4 j))∧Bk wr w.heap.size 184 (C9 (I3 4))∧Below w.heap.size w wr) (fun z _ _=>4-(intOf z).toNat)
     case atStart=>exact ⟨0,by omega,rfl,rfl,K,D,R,B⟩
     case round=>
      clear K D R B;obtain⟨j,hj,rfl,rfl,K,D,R,B⟩:=hrel;by_cases hlj:j<4
      ·have d0:=D.at_ (J1 (l:=Cv (shW r c0) (E9 r) 4 j) (i:=j) (by simpa using hlj));rw[Fk hlj,if_neg (by omega)]at d0;have f0:=D.frozen j;have D3:=D.set_ j (.int .u64 (J0 (E9 r j <<< (1:UInt64) ||| shC r c0 j)));rw[Am,Hw (f:=shW r c0) (g:=E9 r) (x:=E9 r j <<< (1:UInt64) ||| shC r c0 j) hlj rfl]at D3;go_wp2_with fail;refine Wp 12 (fun W=>W.cell? ⟨w.heap.size+1,j,none⟩=some (.int .u64 (J0 (E9 r j)))) (by kernel_rfl) ?_;refine Ln (A:=?A1) [0,1,2,7,8] (by kernel_rfl) (by kernel_rfl) rfl (by kernel_rfl) (by kernel_rfl) (by kernel_rfl) (fun _=>d0) (h:=fun W=>?h1) (hr:=?r1);case h1=>exact Dd
       refine Xr (A:=?A2) [3,9] (by kernel_rfl) (by kernel_rfl) rfl (by kernel_rfl) (by kernel_rfl) (by kernel_rfl) d0 (h:=fun W hW=>?h2) (hr:=?r2);case h2=>
        simp only[List.append_eq,Vq,Bv,Sb];repeat (go_big_quiet_step (fail))
        refine wpQuiet_nil ?_;rfl
       refine Ln (A:=?A4) [4,5,6,10,11] (by kernel_rfl) (by kernel_rfl) rfl (by kernel_rfl) (by kernel_rfl) (by kernel_rfl) (fun _=>d0) (h:=fun W=>?h4) (hr:=?r4);case h4=>
        simp only[List.append_eq,Vq,Bv,Sb];repeat (go_big_quiet_step (fail))
        refine wpQuiet_nil ?_;rfl
       refine Yj (by kernel_rfl) (by rfl) (by rfl) (fun Q' hQ'=>?_);dsimp only[F8];go_wp2_with fail;refine Ln (A:=?A3) [13] (by kernel_rfl) (by kernel_rfl) rfl (by kernel_rfl) (by kernel_rfl) (by kernel_rfl) (fun h=>absurd h (by decide)) (h:=fun W=>?h3) (hr:=?r3);case h3=>
        simp only[List.append_eq,Vq,Bv,Sb];repeat (go_big_quiet_step (fail))
        refine wpQuiet_nil ?_;rfl
       refine A3b (by kernel_rfl) ?_;go_wp2_with fail;go_roundw;case rel=>exact ⟨j+1,by omega,by go_num,rfl,K.drew.far (by show g≠w.heap.size+1;omega) _,D3,R.drew.far (by show w.heap.size≠w.heap.size+1;omega) _,(B.trans (Below.refl _ _).drew).setCell (by simp) _⟩
       case measure=>simp[intOf];omega
      ·obtain rfl:j=4:=by omega
       have e4:((4:Nat):Int)=4:=rfl;rw[e4];clear e4;have hD:Bk wr (w.heap.size+1) 182 (C9 (B6s r c0)):=D;obtain⟨y,hy⟩:=H8 (B6s r c0);have aA:y.length=4:=by rw[hy];simp
       have aH:Hid (Mb r0 x (k+1)=Z8 y):=Lib.hid (by rw[HB.out,hy]);rw[←hy]at hD;have rk:=hD.row64 (n:=4) aA;clear D hy;go_wp2_with fail;refine (Om y aA wr).mono ?_;rintro e w2 ⟨rfl,b2⟩;have K2:=K.bl b2;have D2:=hD.bl b2;have R2:=R.bl b2;have B2:=J5 B b2;have aI:=Eu aA;have aJ:P7 w2 ⟨w.heap.size+1,0,none⟩ 4=true:=D2.can (by simp[aA]);have D3:=D2.puts (vs:=C9 (Z8 y)) (by simp[aA,aI]);rw[←aH.out]at D3;have K3:=K2.putFar (p:=⟨w.heap.size+1,0,none⟩) (by show g≠w.heap.size+1;omega) (C9 (Z8 y));have R3:=R2.putFar (p:=⟨w.heap.size+1,0,none⟩) (by show w.heap.size≠w.heap.size+1;omega) (C9 (Z8 y));have B3:=C5 (a:=⟨w.heap.size+1,0,none⟩) B2 (by simp) (C9 (Z8 y));rw[aH.out]at D3;go_wp2_with fail;go_roundw;case rel=>exact ⟨k+1,by omega,by rw[←ES.out];all_goals (simp<;>omega),K3,by rw[aH.out];exact D3,R3,B3⟩
       case measure=>have:=ES.out;simp[intOf]<;>omega
    ·obtain rfl:k=64:=by omega
     rw[←HN.out]at D;have e3:=E2.out;go_wp2_with fail;go_roundw;case rel=>exact ⟨m+1,by omega,by simp<;>omega,K,D,R,B⟩
     case measure=>simp[intOf];omega
  ·obtain rfl:m=n:=by omega
   have hD:Bk wr (w.heap.size+1) 182 (C9 (Oy ws)):=by have:=D;rw[←hn]at this;exact this
   obtain⟨ss,aC⟩:=H8 (Oy ws);have aK:ss.length=4:=by rw[aC];exact Gm ws
   have HS:Hid (Oy ws=ss):=Lib.hid aC.symm;rw[←aC]at hD;have rk:=hD.row64 (n:=4) aK;have aP:decide (0≤(m:Int)-1-(m:Int))=false:=decide_eq_false (by omega);have aJ:=Fu 4 R (by simp);clear D aC;go_wp2_with fail;refine bodyPost_ret (E5 rfl _ _ _ _ _ _ rfl (R.puts (vs:=C9 ss) (by simp[aK])) Eb rfl (by simp[Hh,aK])) rfl ⟨by rw[HS.out];rfl,C5 B (Nat.le_refl _) _⟩
def Qf (b:List UInt8):List UInt64:=Oy (wl b 8 64)
theorem Ey (b:List UInt8):(Qf b).length=4:=Gm _
@[go_sem ↓ high] theorem D9k:RB' 61:=BX' _
theorem A0i (b:List UInt8) (hb:b.length=64) (w:World):Calls Tryz.prog 135 #[A8 b] w fun e w'=>e=.returned (H7 (Qf b))∧Below w.heap.size w w':=by
 obtain⟨W0,aB⟩:=H8 ((w.alloc (Obj.cells (c8 b).toArray 61)).alloc (Obj.cells (C9 (I3 4)).toArray 184));have hL:W0=M2 w [(61,c8 b),(184,C9 (I3 4))]:=aB;have B0:=Jc hL;have K0:=Jy hL rfl;have R0:=Gs 1 hL rfl;clear hL;go_enter Tryz.func135,Tryz.ntmps135;go_wp2_with fail;rw[←aB];clear aB;refine (Zt b 64 8 w.heap.size _ hb rfl (by decide) W0 K0).mono ?_;rintro e w1 ⟨p,rfl,P1,hp,b1⟩;have R1:=R0.bl b1;have B1:=J5 B0 b1;obtain⟨ws,aA⟩:=H8 (wl b 8 64);have aC:ws.length=8:=by rw[aA];simp
 have HS:Hid (Qf b=Oy ws):=Lib.hid (by rw[aA];rfl);rw[←aA]at P1;clear aA;go_wp2_with fail;refine (A0d ws 8 p _ aC (by decide) w1 P1).mono ?_;rintro e w2 ⟨rfl,b2⟩;have R2:=R1.bl b2;have B2:=J5 B1 b2;have hl:=Gm ws;have aD:=Fu 4 R2 (by simp);go_wp2_with fail;refine bodyPost_ret (E5 rfl _ _ _ _ _ _ rfl (R2.puts (vs:=C9 (Oy ws)) (by simp[hl])) Eb rfl (by simp[Hh,hl])) rfl ⟨by rw[HS.out];rfl,C5 B2 (by simp) _⟩
section
theorem Np:∀(xs ys:List UInt64),xs.length=ys.length→((List.range xs.length).all fun i=>xs.getD i 0==ys.getD i 0)=(xs==ys)
 | [],[],_=>rfl
 | x::xs,y::ys,h=>by
  have ih:=Np xs ys (by simpa using h);rw[List.length_cons,List.range_succ_eq_map,List.all_cons,List.all_map];simp only[List.getD_cons_zero,Function.comp_def,List.getD_cons_succ,ih];simp[List.cons_beq_cons]
 | [],_::_,h=>by simp at h
 | _::_,[],h=>by simp at h
section
variable {P : Program} (w : World)
theorem Ki (d:Nat) (t e:TypeId) (n:Nat) (ht:P.underlying t=some (.array n e)) (he:P.underlying e=some (.int .u64)) (hsz:∀w,(sizeOf e).run P w=.ok 1 w)
 (xs ys:List UInt64) (hx:xs.length=n) (hy:ys.length=n) :
 (Op.equalIn (d+2) t (.agg (xs.map Sz).toArray) (.agg (ys.map Sz).toArray)).run P w=.ok (xs==ys) w:=by
 rw[←Np xs ys (hx.trans hy.symm),hx,List.range_eq_range',Op.equalIn];simp only[Sem.run_bind,run_underlying ht,Result.andThen_ok,hsz,Std.Legacy.Range.forIn_eq_forIn_range',Std.Legacy.Range.size,Nat.sub_zero,Nat.add_sub_cancel,Nat.div_one];have hl:∀i∈List.range' 0 n 1,i<n:=fun i hi=>by simpa using (List.mem_range'_1.1 hi).2
 generalize List.range' 0 n 1=l at hl ⊢;induction l with
 | nil=>simp
 | cons i l ih=>
  have hi:i<n:=hl i (by simp);have px:(part e (xs.map Sz).toArray (i*1)).run P w=.ok (Sz (xs.getD i 0)) w:=by simp[part,isAgg,run_underlying he,List.getD,List.getElem?_eq_getElem (show i<xs.length by omega)]
  have py:(part e (ys.map Sz).toArray (i*1)).run P w=.ok (Sz (ys.getD i 0)) w:=by simp[part,isAgg,run_underlying he,List.getD,List.getElem?_eq_getElem (show i<ys.length by omega)]
  have pe:(Op.equalIn (d+1) e (Sz (xs.getD i 0)) (Sz (ys.getD i 0))).run P w=.ok (xs.getD i 0==ys.getD i 0) w:=by rw[Sz,Sz,run_equalIn_int w d e .u64 .u64 _ _ he];congr 1;rw[Bool.eq_iff_iff];simp only[beq_iff_eq];exact ⟨fun h=>A8o (by unfold Sz;rw[h]),fun h=>by rw[h]⟩
  simp only[List.forIn_cons,Sem.run_bind,px,py,pe,Result.andThen_ok,List.all_cons];cases hb:(xs.getD i 0==ys.getD i 0)
  ·simp
  ·simp only[Bool.not_true,Bool.false_eq_true,if_false,Sem.run_pure,Result.andThen_ok,Bool.true_and];exact ih fun j hj=>hl j (by simp[hj])
end
theorem A4d (w:World):(sizeOf 117).run Tryz.prog w=.ok 1 w:=by kernel_rfl
theorem A8g (d:Nat) (w:World) (xs ys:List UInt64) (hx:xs.length=4) (hy:ys.length=4):(Op.equalIn (d+2) 182 (H7 xs) (H7 ys)).run Tryz.prog w=.ok (xs==ys) w:=
 Ki w d _ _ 4 Tryz.underlying182 Tryz.underlying117 A4d xs ys hx hy
theorem A8p (d:Nat) (w:World) (xs ys:List UInt64) (hx:xs.length=5) (hy:ys.length=5):(Op.equalIn (d+2) 136 (H7 xs) (H7 ys)).run Tryz.prog w=.ok (xs==ys) w:=
 Ki w d _ _ 5 Tryz.underlying136 Tryz.underlying117 A4d xs ys hx hy
theorem B5k:Tryz.prog.stoodInHeld 138=false:=by kernel_rfl
theorem B9d:Tryz.prog.stoodInHeld 140=false:=by kernel_rfl
theorem C1v (w:World):(sizeOf 136).run Tryz.prog w=.ok 5 w:=by kernel_rfl
theorem C1e (w:World):(sizeOf 138).run Tryz.prog w=.ok 5 w:=by kernel_rfl
theorem C2b (xs:List UInt64) (o:Nat) (w:World):(part 136 (C9 xs).toArray o).run Tryz.prog w=.ok (H7 ((xs.drop o).take 5)) w:=by
 simp[part,isAgg,run_underlying Tryz.underlying136,C1v,H7,C9,List.extract_eq_take_drop]
theorem Vm (xs:List UInt64) (o:Nat) (w:World):(part 138 (C9 xs).toArray o).run Tryz.prog w=.ok (H7 ((xs.drop o).take 5)) w:=by
 simp[part,isAgg,run_underlying P4,C1e,H7,C9,List.extract_eq_take_drop]
def eqF (d:Nat) (xs ys:Array Value):List (Bool×TypeId×Nat)→Sem Bool
 | []=>pure true
 | (b,t,o)::fs=>
  if b=true then do
   let a ←part t xs o
   let b ←part t ys o
   let r ←Op.equalIn d t a b
   if (!r)=true then pure false else eqF d xs ys fs
  else eqF d xs ys fs
theorem Ly (d : Nat) (xs ys : Array Value) : ∀ fs : List Field, Op.eqFields d xs ys fs = eqF d xs ys (fs.map fun f => (decide (f.name ≠ "_"), f.type, f.offset))
 | []=>rfl
 | f::fs=>by
  simp only[Op.eqFields,List.map_cons,eqF,Ly d xs ys fs];by_cases h : f.name ≠ "_" <;> simp [h]
theorem C5w : ((Tryz.prog.fieldsOf 138).toList.map fun f => (decide (f.name ≠ "_"), f.type, f.offset)) = [(true, 136, 0)] := by kernel_rfl
theorem C7k : ((Tryz.prog.fieldsOf 140).toList.map fun f => (decide (f.name ≠ "_"), f.type, f.offset)) = [(true, 138, 0), (true, 138, 5), (true, 138, 10), (true, 138, 15)] := by kernel_rfl
theorem B4a:Tryz.prog.underlying 138=some (.struct (Tryz.prog.fieldsOf 138)):=by kernel_rfl
theorem B5y:Tryz.prog.underlying 140=some (.struct (Tryz.prog.fieldsOf 140)):=by kernel_rfl
theorem Ml (d:Nat) (w:World) (xs ys:List UInt64) (hx:xs.length=5) (hy:ys.length=5):(Op.equalIn (d+3) 138 (H7 xs) (H7 ys)).run Tryz.prog w=.ok (xs==ys) w:=by
 rw[H7,H7,run_equalIn_struct w (d+2) _ _ _ B4a B5k,Ly,C5w];simp only[eqF,if_true,Sem.run_bind,C2b,Result.andThen_ok,List.drop_zero];rw[List.take_of_length_le (by omega),List.take_of_length_le (by omega),A8p d w xs ys hx hy];cases h:xs==ys<;>simp
theorem C1h {xs ys:List UInt64} (hx:xs.length=20) (hy:ys.length=20):(xs==ys)=(xs.take 5==ys.take 5&&((xs.drop 5).take 5==(ys.drop 5).take 5&&((xs.drop 10).take 5==(ys.drop 10).take 5&&((xs.drop 15).take 5==(ys.drop 15).take 5)))):=by
 rw[Bool.eq_iff_iff];simp only[beq_iff_eq,Bool.and_eq_true];constructor
 ·rintro rfl;exact ⟨rfl,rfl,rfl,rfl⟩
 ·rintro ⟨h0,h1,h2,h3⟩;have e:∀l:List UInt64,l.length=20→l=l.take 5++((l.drop 5).take 5++((l.drop 10).take 5++(l.drop 15).take 5)):=by intro l hl;have a1:=(List.take_append_drop 5 l).symm;have a2:=(List.take_append_drop 5 (l.drop 5)).symm;have a3:=(List.take_append_drop 5 (l.drop 10)).symm;have a4:(l.drop 15).take 5=l.drop 15:=List.take_of_length_le (by simp;omega);rw[List.drop_drop]at a2 a3;rw[a4,←a3,←a2,←a1]
  rw[e xs hx,e ys hy,h0,h1,h2,h3]
theorem A6p (d:Nat) (w:World) (xs ys:List UInt64) (hx:xs.length=20) (hy:ys.length=20):(Op.equalIn (d+4) 140 (H7 xs) (H7 ys)).run Tryz.prog w=.ok (xs==ys) w:=by
 rw[H7,H7,run_equalIn_struct w (d+3) _ _ _ B5y B9d,Ly,C7k,C1h hx hy];simp only[eqF,if_true,Sem.run_bind,Vm,Result.andThen_ok,List.drop_zero];rw[Ml d w _ _ (by simp;omega) (by simp;omega)];cases h0:xs.take 5==ys.take 5
 ·simp
 simp only[Result.andThen_ok,Bool.not_true,Bool.false_eq_true,if_false,Sem.run_bind,Vm];rw[Ml d w _ _ (by simp;omega) (by simp;omega)];cases h1:(xs.drop 5).take 5==(ys.drop 5).take 5
 ·simp
 simp only[Result.andThen_ok,Bool.not_true,Bool.false_eq_true,if_false,Sem.run_bind,Vm];rw[Ml d w _ _ (by simp;omega) (by simp;omega)];cases h2:(xs.drop 10).take 5==(ys.drop 10).take 5
 ·simp
 simp only[Result.andThen_ok,Bool.not_true,Bool.false_eq_true,if_false,Sem.run_bind,Vm];rw[Ml d w _ _ (by simp;omega) (by simp;omega)];cases h3:(xs.drop 15).take 5==(ys.drop 15).take 5<;>simp
noncomputable def A4l (neg:Bool) (n:Nat) (w:World) (raw:Result Next) (a b:Value):Result Next:=
 match Vj a,Vj b with
 | some xs,some ys=>if xs.length=n∧ys.length=n then .ok (.value (.bool (neg != (xs==ys)))) w else raw
 | _,_=>raw
@[go_sem] theorem D5z (neg : Bool) (n : Nat) (w : World) (raw : Result Next) (xs ys : List UInt64) (hx : xs.length = n) (hy : ys.length = n) : A4l neg n w raw (H7 xs) (H7 ys) = .ok (.value (.bool (neg != (xs == ys)))) w := by
 unfold A4l;rw[Ov,Ov];exact if_pos ⟨hx,hy⟩
section
variable {P : Program} (w : World) (ρ : Operand → Value) (dst : Option Tmp) (ty : TypeId) (pos : String) (after : Array Edge) (guard : Option (Nat × Bool))
theorem B1y (t n:TypeId) (x y:Operand) (yt:TypeId) (hq:∀xs ys:List UInt64,xs.length=n→ys.length=n→(Op.equalIn 10000 t (H7 xs) (H7 ys)).run P w=.ok (xs==ys) w) (hg:P.eqGuardType P.depth t=false) :
 (execOp ρ { dst,op:=.binOp .eql t x y yt,type:=ty,pos,after,guard }).run P w=A4l false n w (N8 P ρ { dst,op:=.binOp .eql t x y yt,type:=ty,pos,after,guard } w) (ρ x) (ρ y):=by
 generalize hv:ρ x=a;generalize hz:ρ y=b;unfold A4l;split
 ·rename_i xs ys h1 h2
  replace h1:=Gf h1;replace h2:=Gf h2;split
  ·rename_i h
   have aA:(eqGuard .eql t x y a b).run P w=.ok () w:=by rw[h1,h2];exact run_eqGuard_agg (P:=P) w .eql t x y _ _ hg
   have e1:(binOp .eql t a b).run P w=.ok (.bool (xs==ys)) w:=by rw[h1,h2,H7,H7,run_eql_struct];exact congrArg (fun r:Result Bool=>r.andThen fun b w'=>Result.ok (Value.bool b) w') (hq xs ys h.1 h.2)
   simp only[execOp,hv,hz,Sem.run_bind,aA,Result.andThen_ok,e1,Sem.run_pure];simp
  ·rfl
 ·rfl
theorem B2j (t n:TypeId) (x y:Operand) (yt:TypeId) (hq:∀xs ys:List UInt64,xs.length=n→ys.length=n→(Op.equalIn 10000 t (H7 xs) (H7 ys)).run P w=.ok (xs==ys) w) (hg:P.eqGuardType P.depth t=false) :
 (execOp ρ { dst,op:=.binOp .neq t x y yt,type:=ty,pos,after,guard }).run P w=A4l true n w (N8 P ρ { dst,op:=.binOp .neq t x y yt,type:=ty,pos,after,guard } w) (ρ x) (ρ y):=by
 generalize hv:ρ x=a;generalize hz:ρ y=b;unfold A4l;split
 ·rename_i xs ys h1 h2
  replace h1:=Gf h1;replace h2:=Gf h2;split
  ·rename_i h
   have aA:(eqGuard .neq t x y a b).run P w=.ok () w:=by rw[h1,h2];exact run_eqGuard_agg (P:=P) w .neq t x y _ _ hg
   have e1:(binOp .neq t a b).run P w=.ok (.bool (!(xs==ys))) w:=by rw[h1,h2,H7,H7,run_neq_struct];exact congrArg (fun r:Result Bool=>r.andThen fun b w'=>Result.ok (Value.bool (!b)) w') (hq xs ys h.1 h.2)
   simp only[execOp,hv,hz,Sem.run_bind,aA,Result.andThen_ok,e1,Sem.run_pure];simp
  ·rfl
 ·rfl
end
section
variable (w : World) (ρ : Operand → Value) (dst : Option Tmp) (ty : TypeId) (pos : String) (after : Array Edge) (guard : Option (Nat × Bool))
@[go_sem ↓ high] theorem E0m (x y : Operand) (yt : TypeId) :
 (execOp ρ { dst,op:=.binOp .neq 182 x y yt,type:=ty,pos,after,guard }).run Tryz.prog w=A4l true 4 w (N8 Tryz.prog ρ { dst,op:=.binOp .neq 182 x y yt,type:=ty,pos,after,guard } w) (ρ x) (ρ y):=
 B2j w ρ dst ty pos after guard 182 4 x y yt (fun xs ys hx hy=>A8g 9998 w xs ys hx hy) (by kernel_rfl)
@[go_sem ↓ high] theorem E0z (x y : Operand) (yt : TypeId) :
 (execOp ρ { dst,op:=.binOp .eql 140 x y yt,type:=ty,pos,after,guard }).run Tryz.prog w=A4l false 20 w (N8 Tryz.prog ρ { dst,op:=.binOp .eql 140 x y yt,type:=ty,pos,after,guard } w) (ρ x) (ρ y):=
 B1y w ρ dst ty pos after guard 140 20 x y yt (fun xs ys hx hy=>A6p 9996 w xs ys hx hy) (by kernel_rfl)
end
structure Pn where
 x:List UInt64
 y:List UInt64
 z:List UInt64
 t:List UInt64
def Pn.row (p:Pn):List UInt64:=Mv p.x p.y p.z p.t
structure Pn.Ok (p : Pn) : Prop where
 x:p.x.length=5
 y:p.y.length=5
 z:p.z.length=5
 t:p.t.length=5
theorem Pn.Ok.row {p:Pn} (h:p.Ok):p.row.length=20:=X5 h.x h.y h.z h.t
section
variable {w : World} {g : Nat} {tt : TypeId} {p : Pn}
theorem Pn.loadx (h:Bk w g tt (C9 p.row)) (hp:p.Ok):I6 w ⟨g,0,none⟩ 5=some (C9 p.x):=D9x h hp.x hp.y hp.z hp.t
theorem Pn.loady (h:Bk w g tt (C9 p.row)) (hp:p.Ok):I6 w ⟨g,5,none⟩ 5=some (C9 p.y):=E1h h hp.x hp.y hp.z hp.t
theorem Pn.loadz (h:Bk w g tt (C9 p.row)) (hp:p.Ok):I6 w ⟨g,10,none⟩ 5=some (C9 p.z):=E0a h hp.x hp.y hp.z hp.t
theorem Pn.loadt (h:Bk w g tt (C9 p.row)) (hp:p.Ok):I6 w ⟨g,15,none⟩ 5=some (C9 p.t):=E1t h hp.x hp.y hp.z hp.t
end
theorem Bk.put64 {w:World} {g:Nat} {t:TypeId} {l m:List UInt64} {n:Nat} (K:Bk w g t (C9 l)) (hl:l.length=n) (hm:m.length=n):Bk (E0 w ⟨g,0,none⟩ (C9 m)) g t (C9 m):=K.puts (by simp[hl,hm])
theorem Bk.put8 {w:World} {g:Nat} {t:TypeId} {l m:List UInt8} {n:Nat} (K:Bk w g t (c8 l)) (hl:l.length=n) (hm:m.length=n):Bk (E0 w ⟨g,0,none⟩ (c8 m)) g t (c8 m):=K.puts (by simp[hl,hm])
theorem Bk.can64 {w:World} {g:Nat} {t:TypeId} {l:List UInt64} {n:Nat} (K:Bk w g t (C9 l)) (hl:l.length=n):P7 w ⟨g,0,none⟩ n=true:=K.can (by simp[hl])
theorem Bk.can8 {w:World} {g:Nat} {t:TypeId} {l:List UInt8} {n:Nat} (K:Bk w g t (c8 l)) (hl:l.length=n):P7 w ⟨g,0,none⟩ n=true:=K.can (by simp[hl])
theorem Hi {Q':Exit→Act→World→Prop} {a a':Act} {w:World} (h:Q' .normal a w) (e:a=a'):Q' .normal a' w:=e▸h
def I2 (Z:List Soup) (us:Nat→Value) (l:List Value):List Value:=Z.foldl (fun l z=>l.set z.dst (us z.at_)) l
theorem C8:∀(Z:List Soup) (us:Nat→Value) (l:List Value) (ds:List Deferred),U3 Z us ⟨l.toArray,ds⟩=⟨(I2 Z us l).toArray,ds⟩
 | [],_,_,_=>rfl
 | z::Z,us,l,ds=>by
  show U3 Z us (Act.put ⟨l.toArray,ds⟩ (some z.dst) (us z.at_))=⟨(I2 Z us (l.set z.dst (us z.at_))).toArray,ds⟩;rw[←C8 Z us (l.set z.dst (us z.at_)) ds];unfold Act.put;simp
theorem Ac {v:Value} {p lo hi:Nat} (h:∃b,Ff v=some b∧lo≤b∧b<hi) (e:v=.pointer (some ⟨p,0,none⟩)):lo≤p∧p<hi:=by
 obtain⟨b,h1,h2,h3⟩:=h;subst e;injection h1 with h1;subst h1;exact ⟨h2,h3⟩
theorem Ji {v v':Value} {p p':Nat} (h:Ff v≠Ff v') (e:v=.pointer (some ⟨p,0,none⟩)) (e':v'=.pointer (some ⟨p',0,none⟩)):p≠p':=by
 subst e e';exact fun e=>h (by rw[e])
end
theorem Dl {w V : World} {g : Nat} {T : TypeId} {l m : List UInt64} (n : Nat) (h : V = E0 w ⟨g, 0, none⟩ (C9 m)) (k : Bk w g T (C9 l)) (e : l.length = n) (e2 : m.length = n) : Bk V g T (C9 m) := h ▸ Bk.put64 k e e2
theorem Ck {w : World} {g : Nat} {T : TypeId} {l : List UInt64} (n : Nat) (k : Bk w g T (C9 l)) (e : l.length = n) : P7 w ⟨g, 0, none⟩ n = true := Bk.can64 k e
theorem Cm {Q' : Exit → Act → World → Prop} {a a' : Act} {w : World} (h : Q' .normal a w) (e : a = a' := by kernel_rfl) : Q' .normal a' w := e ▸ h
theorem Jz {P : Prop} (h : P := by
  repeat (first | exact Ik | refine N7 ⟨by first | exact Sd _ _ _ | exact B0u _ _ _ _ | exact zs_mono _ _ _ _ | exact zp_mono _ _ _ | exact zb_mono _ _ _ | exact zk_mono _ _ _ | exact zl_mono _ _ _, ?_⟩)) : P := h
theorem Mu {P Q : Prop} (q : Q) (h : Q → P := by
  intro q
  rw [C8]
  dsimp only [I2, List.foldl, zv, za]
  simp only [List.set_cons_succ, List.set_cons_zero]
  exact q) : P := h q
theorem Qj {Q : World → Prop} {P : Prop} (c : ∀ W, Q W) (h : (∀ W, Q W) → P := by
  intro c o ho us W hW hp Q' hQ'
  obtain rfl := Option.some.inj ho
  clear hp ho
  rw [C8] at hQ' ⊢
  dsimp only [F8, I2, List.foldl, zv, za] at hQ' ⊢
  simp only [List.set_cons_succ, List.set_cons_zero]
  go_wp2_with fail
  refine (c W).mono ?_
  rintro e W2 ⟨rfl, b2⟩
  go_wp2_with fail
  exact Hi (hQ' _ _ b2 rfl (fun h => by cases h)) (by kernel_rfl)) : P := h c
theorem Hx {Q : World → Prop} {P : Prop} (c : ∀ W, Q W) (h : (∀ W, Q W) → P := by
  intro c o ho us W hW hp Q' hQ'
  obtain rfl := Option.some.inj ho
  have g0 := hp 0 _ rfl (by kernel_rfl)
  clear hp ho
  rw [C8] at hQ' ⊢
  dsimp only [F8, I2, List.foldl, zv, za] at hQ' ⊢
  simp only [List.set_cons_succ, List.set_cons_zero]
  dsimp only [zv] at g0
  rw [g0] at hQ' ⊢
  clear g0
  go_wp2_with fail
  refine (c W).mono ?_
  rintro e W2 ⟨rfl, b2⟩
  go_wp2_with fail
  exact Hi (hQ' _ _ b2 rfl (fun h => by cases h)) (by kernel_rfl)) : P := h c
theorem Yz {Q : World → Prop} {P : Prop} (c : ∀ W, Q W) (h : (∀ W, Q W) → P := by
  intro c o ho us W hW hp Q' hQ'
  obtain rfl := Option.some.inj ho
  have g1 := hp 1 _ rfl (by kernel_rfl)
  clear hp ho
  rw [C8] at hQ' ⊢
  dsimp only [F8, I2, List.foldl, zv, za] at hQ' ⊢
  simp only [List.set_cons_succ, List.set_cons_zero]
  dsimp only [zv] at g1
  rw [g1] at hQ' ⊢
  clear g1
  go_wp2_with fail
  refine (c W).mono ?_
  rintro e W2 ⟨rfl, b2⟩
  go_wp2_with fail
  exact Hi (hQ' _ _ b2 rfl (fun h => by cases h)) (by kernel_rfl)) : P := h c
theorem B1n {Q : World → Prop} {P : Prop} (c : ∀ W, Q W) (h : (∀ W, Q W) → P := by
  intro c o ho us W hW hp Q' hQ'
  obtain rfl := Option.some.inj ho
  have g2 := hp 2 _ rfl (by kernel_rfl)
  clear hp ho
  rw [C8] at hQ' ⊢
  dsimp only [F8, I2, List.foldl, zv, za] at hQ' ⊢
  simp only [List.set_cons_succ, List.set_cons_zero]
  dsimp only [zv] at g2
  rw [g2] at hQ' ⊢
  clear g2
  go_wp2_with fail
  refine (c W).mono ?_
  rintro e W2 ⟨rfl, b2⟩
  go_wp2_with fail
  exact Hi (hQ' _ _ b2 rfl (fun h => by cases h)) (by kernel_rfl)) : P := h c
theorem A3u {Q : World → Prop} {P : Prop} (c : ∀ W, Q W) (h : (∀ W, Q W) → P := by
  intro c o ho us W hW hp Q' hQ'
  obtain rfl := Option.some.inj ho
  have g0 := hp 0 _ rfl (by kernel_rfl)
  have g1 := hp 1 _ rfl (by kernel_rfl)
  clear hp ho
  rw [C8] at hQ' ⊢
  dsimp only [F8, I2, List.foldl, zv, za] at hQ' ⊢
  simp only [List.set_cons_succ, List.set_cons_zero]
  dsimp only [zv] at g0 g1
  rw [g0, g1] at hQ' ⊢
  clear g0 g1
  go_wp2_with fail
  refine (c W).mono ?_
  rintro e W2 ⟨rfl, b2⟩
  go_wp2_with fail
  exact Hi (hQ' _ _ b2 rfl (fun h => by cases h)) (by kernel_rfl)) : P := h c
theorem C4z {Q : World → Prop} {P : Prop} (c : ∀ W, Q W) (h : (∀ W, Q W) → P := by
  intro c o ho us W hW hp Q' hQ'
  obtain rfl := Option.some.inj ho
  have g0 := hp 0 _ rfl (by kernel_rfl)
  have g1 := hp 1 _ rfl (by kernel_rfl)
  have g2 := hp 2 _ rfl (by kernel_rfl)
  clear hp ho
  rw [C8] at hQ' ⊢
  dsimp only [F8, I2, List.foldl, zv, za] at hQ' ⊢
  simp only [List.set_cons_succ, List.set_cons_zero]
  dsimp only [zv] at g0 g1 g2
  rw [g0, g1, g2] at hQ' ⊢
  clear g0 g1 g2
  go_wp2_with fail
  refine (c W).mono ?_
  rintro e W2 ⟨rfl, b2⟩
  go_wp2_with fail
  exact Hi (hQ' _ _ b2 rfl (fun h => by cases h)) (by kernel_rfl)) : P := h c
end Go.Proofs.YtlegpkdighoflaaGreat
