/- A part of the proof of DirPlays. -/
import Derived.Test.YtlegpkdighoflaaGreatRar
set_option linter.unusedVariables false
set_option linter.unusedSimpArgs false
set_option maxRecDepth 100000
set_option maxHeartbeats 40000000
namespace Go.Proofs.YtlegpkdighoflaaGreat
open Go Go.RowKit Sh
def wl (b:List UInt8) (n:Nat):Nat→List UInt64
 | 0=>M1 n
 | i+1=>(wl b n i).set (i / 8) (F8 (wl b n i) (i / 8) ||| (g8 b i).toUInt64 <<< UInt64.ofNat (8*(i % 8)))
@[simp] theorem C3i (b : List UInt8) (n : Nat) : ∀ i, (wl b n i).length = n
 | 0=>by simp[wl]
 | i+1=>by simp[wl,C3i b n i]
def Qs (ws:List UInt64):List UInt64:=[F8 ws 0 &&& (2251799813685247:UInt64),(F8 ws 0 >>> (51:UInt64) ||| F8 ws 1 <<< (13:UInt64)) &&& (2251799813685247:UInt64),(F8 ws 1 >>> (38:UInt64) ||| F8 ws 2 <<< (26:UInt64)) &&& (2251799813685247:UInt64),(F8 ws 2 >>> (25:UInt64) ||| F8 ws 3 <<< (39:UInt64)) &&& (2251799813685247:UInt64),F8 ws 3 >>> (12:UInt64) &&& (2251799813685247:UInt64)]
@[simp, go_sem] theorem E0n (ws : List UInt64) : (Qs ws).length = 5 := rfl
def Ke (b:List UInt8):Bool:=!((F8 (wl b 4 32) 3 >>> (63:UInt64) != 0)||(Q3 (Qs (wl b 4 32)) != b))
def Z2 (b:List UInt8):List UInt64:=if Ke b then Qs (wl b 4 32) else M1 5
theorem M7 (b:List UInt8):(Z2 b).length=5:=by unfold Z2;split<;>simp
def Ih:List UInt64:=[1718705420411056,234908883556509,2233514472574048,2117202627021982,765476049583133]
@[simp, go_sem] theorem C7n : Ih.length = 5 := rfl
theorem A9a (w:World):Calls Tryz.prog 152 #[] w fun e w'=>e=.returned (H8 Ih)∧Below w.heap.size w w':=by
 obtain⟨W0,aA⟩:=E9 (w.alloc (Obj.cells (C9 (M1 5)).toArray 138));have B0:=BA' aA;have R0:=KN' aA;have aB:=Mh 5 R0 (by simp);rw[aA]at aB;have e0:Cb (.int .u64 1718705420411056)=some 1718705420411056:=Ek 1718705420411056;have e1:Cb (.int .u64 234908883556509)=some 234908883556509:=Ek 234908883556509;have e2:Cb (.int .u64 2233514472574048)=some 2233514472574048:=Ek 2233514472574048;have e3:Cb (.int .u64 2117202627021982)=some 2117202627021982:=Ek 2117202627021982;have e4:Cb (.int .u64 765476049583133)=some 765476049583133:=Ek 765476049583133;have aC:∀(W:World) (raw:Result Next),Oa W raw (.int .u64 1718705420411056) (.int .u64 234908883556509) (.int .u64 2233514472574048) (.int .u64 2117202627021982) (.int .u64 765476049583133)=.ok (.value (H8 Ih)) W:=fun W raw=>by
  unfold Oa;rw[e0,e1,e2,e3,e4];rfl
 clear e0 e1 e2 e3 e4;have hm:Ih.length=5:=rfl;go_enter Tryz.func152,Tryz.ntmps152;go_wp2_with fail;rw[←aA];refine bodyPost_ret (C5 rfl _ _ _ _ _ _ rfl (R0.puts (vs:=C9 Ih) (by simp)) Ho rfl (by simp[Pp])) rfl ⟨rfl,C0 B0 (Nat.le_refl _) _⟩
theorem B5n (b:List UInt8) (hb:b.length=32) (w:World):Calls Tryz.prog 125 #[A8 b] w fun e w'=>e=.returned (.tuple #[H8 (Z2 b),.bool (Ke b)])∧Below w.heap.size w w':=by
 obtain⟨W0,aA⟩:=E9 (((w.alloc (Obj.cells (c8 b).toArray 23)).alloc (Obj.cells (C9 (M1 5)).toArray 138)).alloc (Obj.cells (C9 (M1 4)).toArray 182));have B0:Below w.heap.size w W0:=by rw[aA];exact ((Bh _ _).alloc (by simp) _).alloc (by simp;try omega) _
 have K0:Bk W0 w.heap.size 23 (c8 b):=by rw[aA];exact ((Bk.new w _ _).alloc _).alloc _
 have R0:Bk W0 (w.heap.size+1) 138 (C9 (M1 5)):=by rw[aA];refine Bk.alloc ?_ _;simpa using Bk.new (w.alloc (Obj.cells (c8 b).toArray 23)) 138 (C9 (M1 5))
 have D0:Bk W0 (w.heap.size+2) 182 (C9 (M1 4)):=by rw[aA];simpa using Bk.new ((w.alloc (Obj.cells (c8 b).toArray 23)).alloc (Obj.cells (C9 (M1 5)).toArray 138)) 182 (C9 (M1 4))
 have z0:w.heap.size+3≤W0.heap.size:=by rw[aA];simp
 have rk:=K0.row8 hb;rw[aA]at rk;go_enter Tryz.func125,Tryz.ntmps125;go_wp2_with fail;rw[←aA];clear aA rk;go_loopw [9] (fun t wr=>∃i:Nat,i≤32∧t=.int .i64 (i:Int)∧Bk wr w.heap.size 23 (c8 b)∧Bk wr (w.heap.size+2) 182 (C9 (wl b 4 i))∧Bk wr (w.heap.size+1) 138 (C9 (M1 5))∧Below w.heap.size w wr∧w.heap.size+3≤wr.heap.size) (fun t _=>32-(intOf t).toNat)
 case atStart=>exact ⟨0,by omega,rfl,K0,D0,R0,B0,z0⟩
 case round=>
  clear K0 D0 R0 B0 z0;obtain⟨i,hi,rfl,K,D,R,B,z⟩:=hrel;by_cases hlt:i<32
  ·have aP:(i:Int) / 8=((i / 8:Nat):Int):=by omega
   have aQ:(i:Int) % 8=((i % 8:Nat):Int):=by omega
   have hx:wl b 4 (i+1)=(wl b 4 i).set (i / 8) (F8 (wl b 4 i) (i / 8) ||| (g8 b i).toUInt64 <<< UInt64.ofNat (8*(i % 8))):=rfl;have d0:=D.at_ (J6 (l:=wl b 4 i) (i:=i / 8) (by simp;omega));have f0:=D.frozen (i / 8);have aR:i / 8<4:=by omega
   have aS:i % 8<8:=by omega
   have D3:=D.set_ (i / 8) (.int .u64 (F0 (F8 (wl b 4 i) (i / 8) ||| (g8 b i).toUInt64 <<< UInt64.ofNat (8*(i % 8)))));rw[Cz,←hx]at D3;have HX:=Lib.hid hx;clear hx;generalize i / 8=qq at *;generalize i % 8=rr at *;obtain⟨ss,aF⟩:=E9 (8*rr);have h8:8*(rr:Int)=(ss:Int):=by omega
   have aJ:ss<64:=by omega
   rw[←aF]at D3;clear HX aF;go_wp2_with fail;go_roundw;case rel=>exact ⟨i+1,by omega,by go_num,K.far (by show w.heap.size≠w.heap.size+2;omega) _,D3,R.far (by simp) _,B.setCell (by show w.heap.size≤w.heap.size+2;omega) _,by simpa [World.setCell] using z⟩
   case measure=>simp[intOf];omega
  ·obtain rfl:i=32:=by omega
   have e5:((32:Nat):Int)=32:=rfl;rw[e5];clear e5;have d0:=D.at_ (J6 (l:=wl b 4 32) (i:=0) (by simp));have d1:=D.at_ (J6 (l:=wl b 4 32) (i:=1) (by simp));have d2:=D.at_ (J6 (l:=wl b 4 32) (i:=2) (by simp));have d3:=D.at_ (J6 (l:=wl b 4 32) (i:=3) (by simp));have HD:Hid (Ke b = !((F8 (wl b 4 32) 3 >>> (63:UInt64) != 0)||(Q3 (Qs (wl b 4 32)) != b))):=Lib.hid rfl;have HL:Hid (Z2 b=if Ke b then Qs (wl b 4 32) else M1 5):=Lib.hid rfl;have aG:(wl b 4 32).length=4:=by simp
   generalize wl b 4 32=ws at *;have aB:=A0n wr 138 (M1 5) 5 _ (by simp) rfl;obtain⟨W6,aD⟩:=E9 (C4 (wr.alloc (Obj.cells (C9 (M1 5)).toArray 138)) ⟨wr.heap.size,0,none⟩ (C9 (Qs ws)));have E6:Bk W6 wr.heap.size 138 (C9 (Qs ws)):=by rw[aD];exact Bk.fresh64 wr _ (by simp)
   have b6:Below wr.heap.size wr W6:=by rw[aD];exact C0 (Bh _ _) (Nat.le_refl _) _
   have R6:=R.bl b6;have K6:=K.bl b6;have D6:=D.bl b6;have B6:=Q5 B b6;obtain⟨p,hp⟩:=E9 (wr.heap.size);have zp:w.heap.size+3≤p:=by rw[hp];exact z
   clear K D R B z;go_wp2_with fail;rw[show [F8 ws 0 &&& (2251799813685247:UInt64),(F8 ws 0 >>> (51:UInt64) ||| F8 ws 1 <<< (13:UInt64)) &&& (2251799813685247:UInt64),(F8 ws 1 >>> (38:UInt64) ||| F8 ws 2 <<< (26:UInt64)) &&& (2251799813685247:UInt64),(F8 ws 2 >>> (25:UInt64) ||| F8 ws 3 <<< (39:UInt64)) &&& (2251799813685247:UInt64),F8 ws 3 >>> (12:UInt64) &&& (2251799813685247:UInt64)]=Qs ws from rfl];rw[←aD];rw[←hp]at E6 ⊢;clear aD hp aB d0 d1 d2 d3 b6;have lW:(Qs ws).length=5:=rfl;by_cases ht:F8 ws 3 >>> (63:UInt64)=0
   ·have aK:(F0 (F8 ws 3 >>> (63:UInt64)) != 0)=false:=by rw[ht];rfl
    have HT:=Lib.hid ht;clear ht;have S0:=Kg W6;have aT:(Q3 (Qs ws)).length=32:=by simp
    refine Jh (fun W=>Below W6.heap.size W6 W) ?_;refine Fs (A:=?aU) [0,1,2,3,4,5,7] S0 (fun W hW=>?aL) ?aM;case aL=>
     have d3:=(D6.bl hW).at_ (J6 (l:=ws) (i:=3) (by rw[aG];omega));have e3:=(E6.bl hW).row64 lW;have k3:=(K6.bl hW).row8 hb;simp only[pick,List.getElem?_cons_zero,List.getElem?_cons_succ];repeat (go_big_quiet_step (fail))
     refine wpQuiet_nil ?_;rfl
    case aM=>
     refine Ci 6 fun Q' hQ'=>?_;dsimp only[C7];go_wp2_with fail;refine (Le (Qs ws) lW W6.drew).mono ?_;rintro e w7 ⟨rfl,b7⟩;have S7:=S0.trans b7;have R7:=R6.bl S7;have E7:=(E6.bl S7).row64 lW;have B7:=Q5 B6 S7;go_wp2_with fail;refine hQ' _ _ S7 ?_;clear hQ';refine Fs (A:=?aV) [8,9] S7 (fun W hW=>?aN) ?aO;case aN=>
      simp only[List.append_eq,Vb,pick,Wt];repeat (go_big_quiet_step (fail))
      refine wpQuiet_nil ?_;rfl
     case aO=>
      refine It ?_;have aC:=Mh 5 R7 (by simp);obtain⟨cc,aE⟩:=E9 ((Q3 (Qs ws)==b));rw[←aE];have aH:=Lib.hid aE;clear aE;cases cc;case true=>
       have he:Q3 (Qs ws)=b:=by simpa using aH.out.symm
       have e1:Ke b=true:=by rw[HD.out,HT.out];simp[he]
       have e2:Z2 b=Qs ws:=by rw[HL.out,if_pos e1]
       have E1:=Lib.hid e1;have E2:=Lib.hid e2;clear e1 e2 he;go_wp2_with fail;refine bodyPost_ret (v:=.tuple #[H8 (Qs ws),.bool true]) ?_ rfl ⟨by rw[E1.out,E2.out],C0 B7 (by simp) _⟩;refine Y7 rfl ?_ ?_
       ·exact N7.row (R7.puts (vs:=C9 (Qs ws)) (by simp)) rfl _ Ho rfl (by simp[Pp])
       ·exact N7.tmp rfl
      case false=>
       have he:¬ Q3 (Qs ws)=b:=by simpa using aH.out.symm
       have e1:Ke b=false:=by rw[HD.out,HT.out];simp[he]
       have e2:Z2 b=M1 5:=by rw[HL.out,if_neg (by rw[e1];decide)]
       have E1:=Lib.hid e1;have E2:=Lib.hid e2;clear e1 e2 he;go_wp2_with fail;refine bodyPost_ret (v:=.tuple #[H8 (M1 5),.bool false]) ?_ rfl ⟨by rw[E1.out,E2.out],C0 B7 (by simp) _⟩;refine Y7 rfl ?_ ?_
       ·exact N7.row (R7.puts (vs:=C9 (M1 5)) (by simp)) rfl _ Ho rfl (by simp[Pp])
       ·exact N7.tmp rfl
   ·have aK:(F0 (F8 ws 3 >>> (63:UInt64)) != 0)=true:=by rw[show (0:Int)=F0 0 from rfl,D6z];simpa using ht
    have e1:Ke b=false:=by rw[HD.out];simp[ht]
    clear ht;have e2:Z2 b=M1 5:=by rw[HL.out,if_neg (by rw[e1];decide)]
    have E1:=Lib.hid e1;have E2:=Lib.hid e2;have d3:=D6.at_ (J6 (l:=ws) (i:=3) (by rw[aG];omega));have aC:=Mh 5 R6 (by simp);clear e1 e2;go_quiet (fail);have aI:P7 (W6.drewN nq) ⟨w.heap.size+1,0,none⟩ 5=true:=aC;go_wp2_with fail;refine bodyPost_ret (v:=.tuple #[H8 (M1 5),.bool false]) ?_ rfl ⟨by rw[E1.out,E2.out],C0 (K9 B6 nq) (by simp) _⟩;refine Y7 rfl ?_ ?_
    ·exact N7.row ((R6.drewN nq).puts (vs:=C9 (M1 5)) (by simp)) rfl _ Ho rfl (by simp[Pp])
    ·exact N7.tmp rfl
section
section
variable (w : World) (ρ : Operand → Value) (dst : Option Tmp) (ty : TypeId) (pos : String) (after : Array Edge) (guard : Option (Nat × Bool))
@[go_sem ↓ high] theorem F0c (x ix : Operand) :
 (execOp ρ { dst,op:=.index 182 x ix,type:=ty,pos,after,guard }).run Tryz.prog w=A5t 4 w (L3 Tryz.prog ρ { dst,op:=.index 182 x ix,type:=ty,pos,after,guard } w) (ρ x) (ρ ix):=
 Pv w ρ dst ty pos after guard 182 _ 4 x ix Tryz.underlying182 (by kernel_rfl) (by kernel_rfl)
end
def Nd:List UInt64:=[6346243789798364141,1503914060200516822,0,1152921504606846976]
@[simp, go_sem] theorem B5i : Nd.length = 4 := rfl
attribute [irreducible] Nd
theorem C4b (w:World):Calls Tryz.prog 150 #[] w fun e w'=>e=.returned (H8 Nd)∧Below w.heap.size w w':=by
 obtain⟨W0,aA⟩:=E9 (w.alloc (Obj.cells (C9 (M1 4)).toArray 182));have B0:=BA' aA;have R0:=KN' aA;have aB:=Mh 4 R0 (by simp);rw[aA]at aB;have e0:Cb (.int .u64 6346243789798364141)=some 6346243789798364141:=Ek 6346243789798364141;have e1:Cb (.int .u64 1503914060200516822)=some 1503914060200516822:=Ek 1503914060200516822;have e2:Cb (.int .u64 0)=some 0:=Ek 0;have e3:Cb (.int .u64 1152921504606846976)=some 1152921504606846976:=Ek 1152921504606846976;have aC:∀(W:World) (raw:Result Next),Ob W raw (.int .u64 6346243789798364141) (.int .u64 1503914060200516822) (.int .u64 0) (.int .u64 1152921504606846976)=.ok (.value (H8 Nd)) W:=fun W raw=>by
  unfold Ob Nd;rw[e0,e1,e2,e3]
 clear e0 e1 e2 e3;have hm:Nd.length=4:=B5i;go_enter Tryz.func150,Tryz.ntmps150;go_wp2_with fail;rw[←aA];refine bodyPost_ret (C5 rfl _ _ _ _ _ _ rfl (R0.puts (vs:=C9 Nd) (by simp)) Tryz.underlying182 rfl (by simp[Xc])) rfl ⟨rfl,C0 B0 (Nat.le_refl _) _⟩
def B4f (w l:List UInt64):Nat→UInt64
 | 0=>0
 | i+1=>C4c (F8 w i) (F8 l i) (B4f w l i)
def C5h (w l:List UInt64) (j:Nat):UInt64:=C3w (F8 w j) (F8 l j) (B4f w l j)
def E0j (w l:List UInt64):List UInt64:=Lm (C5h w l) (fun _=>0) 4 4
@[simp, go_sem] theorem D8q (w l : List UInt64) : (E0j w l).length = 4 := Sr _ _ _ _
theorem D8c (w l:List UInt64):∀i,(B4f w l i).toNat≤1
 | 0=>by show (0:UInt64).toNat≤1;decide
 | i+1=>D8z _ _ _
def Bc (w:List UInt64):List UInt64:=if B4f w Nd 4=1 then w else E0j w Nd
theorem Fx {w:List UInt64} (hw:w.length=4):(Bc w).length=4:=by unfold Bc;split<;>simp[hw]
theorem Sm (x:List UInt64) (hx:x.length=4) (w:World):Calls Tryz.prog 137 #[H8 x] w fun e w'=>e=.returned (H8 (Bc x))∧Below w.heap.size w w':=by
 obtain⟨W0,aB⟩:=E9 (((w.alloc (Obj.cells (C9 x).toArray 182)).alloc (Obj.cells (C9 (M1 4)).toArray 182)).alloc (Obj.cells (C9 (M1 4)).toArray 182));have hL:W0=O8 w [(182,C9 x),(182,C9 (M1 4)),(182,C9 (M1 4))]:=aB;have B0:=Rf hL;have A0:=Um hL rfl;have R0:=Nm 1 hL rfl;have D0:=Nm 2 hL rfl;clear hL;go_enter Tryz.func137,Tryz.ntmps137;go_wp2_with fail;rw[←aB];clear aB;refine (C4b W0).mono ?_;rintro e w1 ⟨rfl,b1⟩;have A1:=A0.bl b1;have R1:=R0.bl b1;have D1:=D0.bl b1;have B1:=Q5 B0 b1;clear A0 R0 D0 B0 b1;go_wp2_with fail;rw[←B7e (f:=C5h x Nd)]at D1;go_loopw [8,4] (fun t q wr=>∃i:Nat,i≤4∧t=.int .i64 (i:Int)∧q=.int .u64 (F0 (B4f x Nd i))∧Bk wr w.heap.size 182 (C9 x)∧Bk wr (w.heap.size+1) 182 (C9 (M1 4))∧Bk wr (w.heap.size+2) 182 (C9 (Lm (C5h x Nd) (fun _=>0) 4 i))∧Below w.heap.size w wr) (fun t _ _=>4-(intOf t).toNat)
 case atStart=>exact ⟨0,by omega,rfl,rfl,A1,R1,D1,B1⟩
 case round=>
  clear A1 R1 D1 B1;obtain⟨i,hi,rfl,rfl,K,R,D,B⟩:=hrel;by_cases hlt:i<4
  ·have k0:=K.at_ (J6 (l:=x) (i:=i) (by omega));have f0:=D.frozen i;have aE:=D8c x Nd i;have D3:=D.set_ i (.int .u64 (F0 (C3w (F8 x i) (F8 Nd i) (B4f x Nd i))));rw[Cz,A2y (f:=C5h x Nd) (g:=fun _=>0) (x:=C3w (F8 x i) (F8 Nd i) (B4f x Nd i)) hlt rfl]at D3;have d0:=D.at_ (J6 (l:=Lm (C5h x Nd) (fun _=>0) 4 i) (i:=i) (by simpa using hlt));clear D;go_wp2_with fail;go_roundw;case rel=>exact ⟨i+1,by omega,by go_num,rfl,K.far (by show w.heap.size≠w.heap.size+2;omega) _,R.far (by simp) _,D3,B.setCell (by show w.heap.size≤w.heap.size+2;omega) _⟩
   case measure=>simp[intOf];omega
  ·obtain rfl:i=4:=by omega
   have e5:((4:Nat):Int)=4:=rfl;rw[e5];clear e5;have rk:=K.row64 (n:=4) hx;have rd:=D.row64 (n:=4) (by simp);have rc:=Mh 4 R (by simp);obtain⟨dd,aA⟩:=E9 (Lm (C5h x Nd) (fun _=>0) 4 4);have aD:dd.length=4:=by rw[aA];simp
   obtain⟨bb,aC⟩:=E9 (B4f x Nd 4);have he:Bc x=if bb=1 then x else dd:=by rw[aC,aA];rfl
   rw[←aA]at rd D;rw[←aC];clear aA aC;have h1:(F0 bb==1)=true→Bc x=x:=fun h=>by
    rw[he,if_pos];have e1:F0 1=1:=rfl;exact B0g (by rw[e1];exact eq_of_beq h)
   have h2:(F0 bb==1)=false→Bc x=dd:=fun h=>by
    rw[he,if_neg];intro e;rw[e]at h;exact absurd h (by decide)
   clear he;go_wp2_with fail
   ·have hb:(F0 bb==1)=true:=by first | assumption | simpa using ‹_›
    refine bodyPost_ret (C5 rfl _ _ _ _ _ _ rfl (R.puts (vs:=C9 x) (by simp[hx])) Tryz.underlying182 rfl (by simp[Xc,hx])) rfl ⟨by rw[h1 hb];rfl,C0 B (by simp) _⟩
   ·have hb:(F0 bb==1)=false:=by first | assumption | simpa using ‹_›
    refine bodyPost_ret (C5 rfl _ _ _ _ _ _ rfl (R.puts (vs:=C9 dd) (by simp[aD])) Tryz.underlying182 rfl (by simp[Xc,aD])) rfl ⟨by rw[h2 hb];rfl,C0 B (by simp) _⟩
end
def E0 (a:List UInt64):List UInt8:=Tp a 32
@[simp, go_sem] theorem Z0 (a : List UInt64) : (E0 a).length = 32 := Sf _ _
theorem Ul (a:List UInt64) (ha:a.length=4) (w:World):Calls Tryz.prog 107 #[H8 a] w fun e w'=>e=.returned (A8 (E0 a))∧Below w.heap.size w w':=by
 obtain⟨W0,aA⟩:=E9 (((w.alloc (Obj.cells (C9 a).toArray 184)).alloc (Obj.cells (c8 (z8 32)).toArray 23)).alloc (Obj.cells (c8 (z8 32)).toArray 23));have hL:W0=O8 w [(184,C9 a),(23,c8 (z8 32)),(23,c8 (z8 32))]:=aA;have B0:=Rf hL;have D0:=Um hL rfl;have R0:=Nm 1 hL rfl;have O0:=Nm 2 hL rfl;clear hL;go_enter Tryz.func107,Tryz.ntmps107;go_wp2_with fail;rw[←aA];clear aA;rw[←Zs (f:=A5g a)]at O0;go_loopw [5] (fun t wr=>∃i:Nat,i≤32∧t=.int .i64 (i:Int)∧Bk wr w.heap.size 184 (C9 a)∧Bk wr (w.heap.size+2) 23 (c8 (Kc (A5g a) 32 i))∧Bk wr (w.heap.size+1) 23 (c8 (z8 32))∧Below w.heap.size w wr) (fun t _=>32-(intOf t).toNat)
 case atStart=>exact ⟨0,by omega,rfl,D0,O0,R0,B0⟩
 case round=>
  clear D0 O0 R0 B0;obtain⟨i,hi,rfl,D,O,R,B⟩:=hrel;by_cases hlt:i<32
  ·have aE:(i:Int) / 8=((i / 8:Nat):Int):=by omega
   have aF:(i:Int) % 8=((i % 8:Nat):Int):=by omega
   have hx:A5g a i=(F8 a (i / 8) >>> UInt64.ofNat (8*(i % 8))).toUInt8:=rfl;have d0:=D.at_ (J6 (l:=a) (i:=i / 8) (by omega));have o0:=O.at_ (Eu (l:=Kc (A5g a) 32 i) (i:=i) (by simpa using hlt));have f0:=O.frozen i;have aG:i / 8<4:=by omega
   have aH:i % 8<8:=by omega
   have HX:=Lib.hid hx;have O3:=O.set_ i (.int .u8 (n8 (F8 a (i / 8) >>> UInt64.ofNat (8*(i % 8))).toUInt8));rw[Gx,A8v (f:=A5g a) hlt HX.out.symm]at O3;clear hx;generalize i / 8=qq at *;generalize i % 8=rr at *;obtain⟨ss,aB⟩:=E9 (8*rr);have h8:8*(rr:Int)=(ss:Int):=by omega
   have aC:ss<64:=by omega
   rw[←aB]at O3;clear HX aB;go_wp2_with fail;go_roundw;case rel=>exact ⟨i+1,by omega,by go_num,D.far (by show w.heap.size≠w.heap.size+2;omega) _,O3,R.far (by show w.heap.size+1≠w.heap.size+2;omega) _,B.setCell (by show w.heap.size≤w.heap.size+2;omega) _⟩
   case measure=>simp[intOf];omega
  ·obtain rfl:i=32:=by omega
   have hO:Bk wr (w.heap.size+2) 23 (c8 (E0 a)):=O;have ro:=hO.row8 (n:=32) (by simp);have aD:=Mh 32 R (by simp);have e5:((32:Nat):Int)=32:=rfl;rw[e5];clear e5 O hO D;go_wp2_with fail;refine bodyPost_ret (C5 rfl _ _ _ _ _ _ rfl (R.puts (vs:=c8 (E0 a)) (by simp)) Tryz.underlying23 rfl (by simp[J9])) rfl ⟨rfl,C0 B (by simp) _⟩
end Go.Proofs.YtlegpkdighoflaaGreat
