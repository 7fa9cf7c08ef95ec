/- A part of the proof of ClientForks. -/
import Derived.WalkKit
import Derived.WalkLawsBesides
import Derived.Outline
import Derived.Lib.Hide
import Derived.Test.YtdfpoofbgjilgaaGreatVac
set_option linter.unusedVariables false
set_option linter.unusedSimpArgs false
set_option maxRecDepth 100000
set_option maxHeartbeats 40000000
namespace Go.Proofs.YtdfpoofbgjilgaaGreat
open Go Go.RowKit Sh
def wf (q:List UInt8) (k j:Nat):UInt64:=((q.drop (8*k)).take j).foldl (fun m x=>m <<< 8 ||| x.toUInt64) 0
theorem C0c (q:List UInt8) (k j:Nat) (h:8*k+j<q.length):wf q k (j+1)=wf q k j <<< 8 ||| (g8 q (8*k+j)).toUInt64:=by
 unfold wf g8;rw[List.take_add_one,List.foldl_append,List.getElem?_drop,List.getElem?_eq_getElem h];simp[h]
theorem A0m (v:Value) (ls:List (List UInt8)) (w:World) (hp:J9 w w.heap.size v ls) (hsz:ls.flatten.length≤1099511627776) :
 Calls Tryz.prog 111 #[v] w fun e w'=>e=.returned (A8 (Ww ls.flatten))∧Below w.heap.size w w':=by
 have bE:Ae.length=8:=by decide +kernel
 have aV:Y0.length=80:=by decide +kernel
 go_enter Tryz.func111,Tryz.ntmps111;go_wp2_with fail;refine (A4r _).mono ?_;rintro e w1 ⟨rfl,aO⟩;have R1:Bk w1 w.heap.size 46 (c8 (z8 64)):=(Bk.new w _ _).below aO (by simp);have B1:Below w.heap.size w w1:=((Below.refl _ _).alloc (Nat.le_refl _) _).trans (aO.mono (by simp));have l1:=R1.lt;clear aO;go_wp2_with fail;generalize hgh:w1.heap.size=gh at *;obtain⟨wa,aJ⟩:∃x,x=C4 (w1.alloc (Obj.cells (E4 (J7 8)).toArray 257)) ⟨gh,0,none⟩ (E4 Ae):=⟨_,rfl⟩;rw[←aJ];have Ha:Bk wa gh 257 (E4 Ae):=by rw[aJ];have:=Bk.new w1 257 (E4 (J7 8));rw[hgh]at this;exact this.puts (by simp[bE])
 have Ra:Bk wa w.heap.size 46 (c8 (z8 64)):=by rw[aJ];exact (R1.alloc _).putFar (by simp;omega) _
 have Ba:Below w.heap.size w wa:=by rw[aJ];exact C0 (B1.alloc (by omega) _) (by simp;omega) _
 clear aJ R1 B1;refine (A3v _).mono ?_;rintro e w2 ⟨rfl,aM⟩;have R2:=Ra.below aM Ra.lt;have H2:=Ha.below aM Ha.lt;have B2:=Ba.trans (aM.mono Ba.size);have l2:=H2.lt;clear aM Ra Ha Ba hgh w1;go_wp2_with fail;obtain⟨w3,aG⟩:∃x,x=(C4 (w2.alloc (Obj.cells (E4 (J7 80)).toArray 259)) ⟨w2.heap.size,0,none⟩ (E4 Y0)).alloc (Obj.cells (E4 (J7 80)).toArray 259):=⟨_,rfl⟩;rw[←aG];have K3:Bk w3 w2.heap.size 259 (E4 Y0):=by rw[aG];exact ((Bk.new _ _ _).puts (by simp[aV])).alloc _
 have M3:Bk w3 (w2.heap.size+1) 259 (E4 (J7 80)):=by rw[aG];simpa using Bk.new (C4 (w2.alloc (Obj.cells (E4 (J7 80)).toArray 259)) ⟨w2.heap.size,0,none⟩ (E4 Y0)) 259 (E4 (J7 80))
 have R3:Bk w3 w.heap.size 46 (c8 (z8 64)):=by rw[aG];exact ((R2.alloc _).putFar (by simp;omega) _).alloc _
 have H3:Bk w3 gh 257 (E4 Ae):=by rw[aG];exact ((H2.alloc _).putFar (by simp;omega) _).alloc _
 have B3:Below w.heap.size w w3:=by rw[aG];exact (C0 (B2.alloc B2.size _) (by exact B2.size) _).alloc (by simp;have:=B2.size;omega) _
 have P3:J9 w3 w3.heap.size v ls:=(hp.below B3).more B3.size;generalize hgk:w2.heap.size=gk at *;clear aG R2 H2 B2 aV;refine (A1e 128 (.inr rfl) v ls w3 P3 hsz).mono ?_;rintro e w4 ⟨u,rfl,hu,aH⟩;have K4:=K3.below aH K3.lt;have M4:=M3.below aH M3.lt;have R4:=R3.below aH R3.lt;have H4:=H3.below aH H3.lt;have B4:=B3.trans (aH.mono B3.size);have l4:=aH.size;have m3:=M3.lt;generalize hpd:pad 128 ls.flatten=p at *;clear aH K3 M3 R3 H3 B3 P3 hp;have Hp:=Lib.hid hpd;have aP:p.length % 128=0:=by rw[←hpd];exact (B8e _).2
 clear hpd hgk w2;go_wp2_with fail;go_loopw [6] (fun b wr=>∃i:Nat,128*i≤p.length∧By w4 w3.heap.size w4.heap.size b (p.drop (128*i))∧Bk wr w.heap.size 46 (c8 (z8 64))∧Bk wr gh 257 (E4 (M1 p i))∧Bk wr gk 259 (E4 Y0)∧(∃M,M.length=80∧Bk wr (gk+1) 259 (E4 M))∧Below w.heap.size w wr∧w4.heap.size≤wr.heap.size∧Oz w3.heap.size w4.heap.size w4 wr) (fun b _=>B2f b)
 case atStart=>exact ⟨0,by omega,by simpa using hu,R4,H4,K4,⟨_,by simp,M4⟩,B4,Nat.le_refl _,Oz.refl _ _ _⟩
 case round=>
  obtain⟨i,hi,hb,Rr,Hr,Kr,⟨M,hM,Mr⟩,Br,lr,Dr⟩:=hrel;clear hu R4 H4 K4 M4 B4;obtain⟨A,c,rfl,hc,bQ,aQ⟩:=hb.open_;generalize hq:p.drop (128*i)=q at *;have aW:q.length=p.length-128*i:=by rw[←hq];simp
  have bF:q.length % 128=0:=by omega
  have Hq:=Lib.hid hq;have aX:=Lib.hid aW;clear hq aW hb aP;by_cases hgo:0<q.length
  ·obtain⟨g,o,rfl,bG,hg,aB⟩:=aQ.some (by simpa using hgo);have bH:128≤q.length:=by omega
   clear bF;go_wp2_with fail;obtain⟨wo,rfl⟩:∃wo:World,wo=wr:=⟨_,rfl⟩;go_loopw [33] (fun t wr=>∃k:Nat,k≤16∧t=.int .i64 k∧Bk wr w.heap.size 46 (c8 (z8 64))∧Bk wr gh 257 (E4 (M1 p i))∧Bk wr gk 259 (E4 Y0)∧(∃M,M.length=80∧M.take k=Yi q k∧Bk wr (gk+1) 259 (E4 M))∧Below w.heap.size w wr∧w4.heap.size≤wr.heap.size∧Oz w3.heap.size w4.heap.size w4 wr) (fun t _=>16-(intOf t).toNat)
   case atStart=>exact ⟨0,by omega,rfl,Rr,Hr,Kr,⟨M,hM,rfl,Mr⟩,Br,lr,Dr⟩
   case round=>
    clear Rr Hr Kr Mr Br lr Dr hM M;obtain⟨k,hk,rfl,Rr,Hr,Kr,⟨M,hM,aK,Mr⟩,Br,lr,Dr⟩:=hrel;have HW:=Lib.hid aK;clear aK;by_cases hlt:k<16
    ·have em:wr.cell? ⟨gk+1,k,none⟩=some (.int .u64 (C8 (E8 M k))):=Mr.at_ (P4 (by omega));have ef:=Mr.frozen k;have bI:¬ c=8*k:=by omega
     go_wp2_with fail;obtain⟨wz,aD⟩:∃x,x=wr.setCell ⟨gk+1,k,none⟩ (.int .u64 0):=⟨_,rfl⟩;rw[←aD];have Mz:Bk wz (gk+1) 259 (E4 (M.set k (wf q k 0))):=by rw[aD,←Ex];exact Mr.set_ k _
     have Rz:Bk wz w.heap.size 46 (c8 (z8 64)):=by rw[aD];exact Rr.far (by simp;omega) _
     have Hz:Bk wz gh 257 (E4 (M1 p i)):=by rw[aD];exact Hr.far (by simp;omega) _
     have Kz:Bk wz gk 259 (E4 Y0):=by rw[aD];exact Kr.far (by simp) _
     have Bz:Below w.heap.size w wz:=by rw[aD];exact Br.setCell (by simp;omega) _
     have lz:w4.heap.size≤wz.heap.size:=by rw[aD];simpa using lr
     have Dz:Oz w3.heap.size w4.heap.size w4 wz:=by rw[aD];exact Dr.setCell (by simp;omega) _
     clear aD Rr Hr Kr Mr Br lr Dr em ef wr;go_loopw [46] (fun t wr=>∃j:Nat,j≤8∧t=.int .i64 j∧Bk wr w.heap.size 46 (c8 (z8 64))∧Bk wr gh 257 (E4 (M1 p i))∧Bk wr gk 259 (E4 Y0)∧Bk wr (gk+1) 259 (E4 (M.set k (wf q k j)))∧Below w.heap.size w wr∧w4.heap.size≤wr.heap.size∧Oz w3.heap.size w4.heap.size w4 wr) (fun t _=>8-(intOf t).toNat)
     case atStart=>exact ⟨0,by omega,rfl,Rz,Hz,Kz,Mz,Bz,lz,Dz⟩
     case round=>
      clear Rz Hz Kz Mz Bz lz Dz wz;obtain⟨j,hj,rfl,Rr,Hr,Kr,Mr,Br,lr,Dr⟩:=hrel;by_cases hlj:j<8
      ·have e0:wr.cell? ⟨g,o+8*k+j,none⟩=some (.int .u8 (n8 (g8 q (8*k+j)))):=by have:=(Dr.cell (p:=⟨g,o+(8*k+j),none⟩) bG hg).trans (B3i aB (by omega));rwa [←Nat.add_assoc]at this
       have em:wr.cell? ⟨gk+1,k,none⟩=some (.int .u64 (C8 (wf q k j))):=by have:=Mr.at_ (P4 (i:=k) (by simp;omega));simpa [E8,show k<M.length by omega] using this
       have ef:=Mr.frozen k;clear aB;go_wp2_with fail;go_roundw;case rel=>refine ⟨j+1,by omega,by go_num,Rr.far (by simp;omega) _,Hr.far (by simp;omega) _,Kr.far (by simp) _,?_,Br.setCell (by simp;omega) _,by simpa using lr,Dr.setCell (by simp;omega) _⟩;have h1:=Mr.set_ k (.int .u64 (C8 (wf q k j <<< 8 ||| (g8 q (8*k+j)).toUInt64)));rw[Ex,List.set_set,←C0c q k j (by omega)]at h1;exact C0c q k j (by omega)▸h1
       case measure=>simp[intOf];omega
      ·obtain rfl:j=8:=by omega
       go_wp2_with fail;go_roundw;case rel=>exact ⟨k+1,by omega,by go_num,Rr,Hr,Kr,⟨M.set k (A0i q k),by simp[hM],E1l q M k (by omega) hlt HW.out,Mr⟩,Br,lr,Dr⟩
       case measure=>simp[intOf];omega
    ·obtain rfl:k=16:=by omega
     go_wp2_with fail;obtain⟨wo,rfl⟩:∃wo:World,wo=wr:=⟨_,rfl⟩;go_loopw [10] (fun t wr=>∃k:Nat,16≤k∧k≤80∧t=.int .i64 k∧Bk wr w.heap.size 46 (c8 (z8 64))∧Bk wr gh 257 (E4 (M1 p i))∧Bk wr gk 259 (E4 Y0)∧(∃M,M.length=80∧M.take k=Yi q k∧Bk wr (gk+1) 259 (E4 M))∧Below w.heap.size w wr∧w4.heap.size≤wr.heap.size∧Oz w3.heap.size w4.heap.size w4 wr) (fun t _=>80-(intOf t).toNat)
     case atStart=>exact ⟨16,by omega,by omega,rfl,Rr,Hr,Kr,⟨M,hM,HW.out,Mr⟩,Br,lr,Dr⟩
     case round=>
      clear Rr Hr Kr Mr Br lr Dr hM HW M aB;obtain⟨k,aR,hk,rfl,Rr,Hr,Kr,⟨M,hM,aK,Mr⟩,Br,lr,Dr⟩:=hrel;have HW:=Lib.hid aK;clear aK;by_cases hlt:k<80
      ·have e0:wr.cell? ⟨gk+1,k-15,none⟩=some (.int .u64 (C8 (E8 M (k-15)))):=Mr.at_ (P4 (by omega));have e1:wr.cell? ⟨gk+1,k-2,none⟩=some (.int .u64 (C8 (E8 M (k-2)))):=Mr.at_ (P4 (by omega));have e2:wr.cell? ⟨gk+1,k-7,none⟩=some (.int .u64 (C8 (E8 M (k-7)))):=Mr.at_ (P4 (by omega));have e3:wr.cell? ⟨gk+1,k-16,none⟩=some (.int .u64 (C8 (E8 M (k-16)))):=Mr.at_ (P4 (by omega));have em:wr.cell? ⟨gk+1,k,none⟩=some (.int .u64 (C8 (E8 M k))):=Mr.at_ (P4 (by omega));have ef:=Mr.frozen k;go_wp2_with fail;go_quiet (fail);go_wp2_with fail;refine Cn 29 (by kernel_rfl) (by kernel_rfl) ?_;simp only[List.take_succ_cons,List.take_zero,List.drop_succ_cons,List.drop_zero];repeat (go_big_quiet_step ((go_at_call 165;first | exact Em (A5r _ _ (by omega)) | exact Dk (A5r _ _ (by omega)))))
       refine wpQuiet_nil ?_;rintro w' ⟨bJ,rfl⟩;go_wp2_with fail;go_roundw;case rel=>
        refine ⟨k+1,by omega,by omega,by go_num,(Rr.drewN _).far (by simp;omega) _,(Hr.drewN _).far (by simp;omega) _,(Kr.drewN _).far (by simp) _,⟨M.set k (A7o (E8 M (k-2)) (E8 M (k-7)) (E8 M (k-15)) (E8 M (k-16))),by simp[hM],E2f q M k (by omega) aR HW.out,?_⟩,(N6 Br _).setCell (by simp;omega) _,by simpa using lr,(Dr.drewN _).setCell (by simp;omega) _⟩;rw[←Ex];exact (Mr.drewN (nq+bJ)).set_ k _
       case measure=>simp[intOf];omega
      ·obtain rfl:k=80:=by omega
       have aC:=Gu p i;have aE:D9 wr ⟨gh,0,none⟩ 8=some (E4 (M1 p i)):=by have:=Hr.rows;rwa [Ln,aC]at this
       obtain⟨X,hX⟩:∃X,X=Yi q 80:=⟨_,rfl⟩;have aY:=D3f q M HW.out hM;rw[aY,←hX]at Mr;have bK:X.length=80:=by rw[hX];exact B6p q 80
       have HX:=Lib.hid hX;clear hX aY;have bR:=Hr.lt;have bL:=lr;go_wp2_with fail;generalize hgv':wr.heap.size=gv at *;obtain⟨wv,aA⟩:∃x,x=C4 (wr.alloc (Obj.cells (E4 (J7 8)).toArray 257)) ⟨gv,0,none⟩ (E4 (M1 p i)):=⟨_,rfl⟩;rw[←aA];have V0:Bk wv gv 257 (E4 (M1 p i)):=by rw[aA];have:=Bk.new wr 257 (E4 (J7 8));rw[hgv']at this;exact this.puts (by simp[aC])
       have R0:Bk wv w.heap.size 46 (c8 (z8 64)):=by rw[aA];exact (Rr.alloc _).putFar (by simp;omega) _
       have H0:Bk wv gh 257 (E4 (M1 p i)):=by rw[aA];exact (Hr.alloc _).putFar (by simp;omega) _
       have K0:Bk wv gk 259 (E4 Y0):=by rw[aA];exact (Kr.alloc _).putFar (by simp;omega) _
       have M0:Bk wv (gk+1) 259 (E4 X):=by rw[aA];exact (Mr.alloc _).putFar (by simp;omega) _
       have B0:Below w.heap.size w wv:=by rw[aA];exact C0 (Br.alloc Br.size _) (by simp;omega) _
       have L0:w4.heap.size≤wv.heap.size:=by rw[aA];simp;omega
       have D0:Oz w3.heap.size w4.heap.size w4 wv:=by rw[aA];exact (Dr.alloc (by omega) _).putAt (by simp;omega) _
       clear aA aE Rr Hr Kr Mr Br Dr HW hM hgv' lr wr;go_loopw [103] (fun t wr=>∃k:Nat,k≤80∧t=.int .i64 k∧Bk wr w.heap.size 46 (c8 (z8 64))∧Bk wr gh 257 (E4 (M1 p i))∧Bk wr gk 259 (E4 Y0)∧Bk wr (gk+1) 259 (E4 X)∧Bk wr gv 257 (E4 (Im (M1 p i) X k))∧Below w.heap.size w wr∧w4.heap.size≤wr.heap.size∧Oz w3.heap.size w4.heap.size w4 wr) (fun t _=>80-(intOf t).toNat)
       case atStart=>exact ⟨0,by omega,rfl,R0,H0,K0,M0,V0,B0,L0,D0⟩
       case round=>
        clear R0 H0 K0 M0 V0 B0 L0 D0 wv;obtain⟨k,hk,rfl,Rr,Hr,Kr,Mr,Vr,Br,lr,Dr⟩:=hrel;have aN:=Me (M1 p i) X aC k;have aF:Im (M1 p i) X (k+1)=A8k (Im (M1 p i) X k) (K64 k) (E8 X k):=rfl;have bM:=Lib.hid aF;clear aF;generalize hV:Im (M1 p i) X k=V at *;have HV:=Lib.hid hV;clear hV;by_cases hlt:k<80
        ·have v0:wr.cell? ⟨gv,0,none⟩=some (.int .u64 (C8 (E8 V 0))):=Vr.at_ (P4 (by omega));have v1:wr.cell? ⟨gv,1,none⟩=some (.int .u64 (C8 (E8 V 1))):=Vr.at_ (P4 (by omega));have v2:wr.cell? ⟨gv,2,none⟩=some (.int .u64 (C8 (E8 V 2))):=Vr.at_ (P4 (by omega));have v3:wr.cell? ⟨gv,3,none⟩=some (.int .u64 (C8 (E8 V 3))):=Vr.at_ (P4 (by omega));have v4:wr.cell? ⟨gv,4,none⟩=some (.int .u64 (C8 (E8 V 4))):=Vr.at_ (P4 (by omega));have v5:wr.cell? ⟨gv,5,none⟩=some (.int .u64 (C8 (E8 V 5))):=Vr.at_ (P4 (by omega));have v6:wr.cell? ⟨gv,6,none⟩=some (.int .u64 (C8 (E8 V 6))):=Vr.at_ (P4 (by omega));have v7:wr.cell? ⟨gv,7,none⟩=some (.int .u64 (C8 (E8 V 7))):=Vr.at_ (P4 (by omega));have ek:wr.cell? ⟨gk,k,none⟩=some (.int .u64 (C8 (E8 Y0 k))):=Kr.at_ (P4 (by simp[Y0];omega));have em:wr.cell? ⟨gk+1,k,none⟩=some (.int .u64 (C8 (E8 X k))):=Mr.at_ (P4 (by omega));have aS:E7 wr ⟨gv,0,none⟩ 8=true:=Vr.can (by simp[aN]);go_wp2_with fail;go_quiet (fail);go_wp2_with fail;go_quiet ((go_at_call 165;first | exact Em (A5r _ _ (by omega)) | exact Dk (A5r _ _ (by omega))));go_wp2_with fail;go_quiet ((go_at_call 165;first | exact Em (A5r _ _ (by omega)) | exact Dk (A5r _ _ (by omega))));go_wp2_with fail;go_roundw;case rel=>
          refine ⟨k+1,by omega,by go_num,(Rr.drewN _).putFar (by simp;omega) _,(Hr.drewN _).putFar (by simp;omega) _,(Kr.drewN _).putFar (by simp;omega) _,(Mr.drewN _).putFar (by simp;omega) _,?_,C0 (N6 Br _) (by simp;omega) _,by simpa using lr,(Dr.drewN _).putAt (by simp;omega) _⟩;rw[bM.out];exact (Vr.drewN _).puts (by simp[aN])
         case measure=>simp[intOf];omega
        ·obtain rfl:k=80:=by omega
         go_wp2_with fail;obtain⟨wo,rfl⟩:∃wo:World,wo=wr:=⟨_,rfl⟩;go_loopw [185] (fun t wr=>∃k:Nat,k≤8∧t=.int .i64 k∧Bk wr w.heap.size 46 (c8 (z8 64))∧Bk wr gh 257 (E4 ((Sh.add64 (M1 p i) V).take k++(M1 p i).drop k))∧Bk wr gk 259 (E4 Y0)∧Bk wr (gk+1) 259 (E4 X)∧Bk wr gv 257 (E4 V)∧Below w.heap.size w wr∧w4.heap.size≤wr.heap.size∧Oz w3.heap.size w4.heap.size w4 wr) (fun t _=>8-(intOf t).toNat)
         case atStart=>exact ⟨0,by omega,rfl,Rr,by simpa using Hr,Kr,Mr,Vr,Br,lr,Dr⟩
         case round=>
          clear Rr Hr Kr Mr Vr Br lr Dr wo;obtain⟨k,hk,rfl,Rr,Hr,Kr,Mr,Vr,Br,lr,Dr⟩:=hrel;have bN:(Sh.add64 (M1 p i) V).length=8:=by simp[Sh.add64,aC,aN]
          by_cases hlt:k<8
          ·have eh:wr.cell? ⟨gh,k,none⟩=some (.int .u64 (C8 (E8 (M1 p i) k))):=by have:=Hr.at_ (P4 (i:=k) (by simp[bN,aC];omega));rwa [C9x _ _ _ (by omega)]at this
           have ev:wr.cell? ⟨gv,k,none⟩=some (.int .u64 (C8 (E8 V k))):=Vr.at_ (P4 (by omega));have ef:=Hr.frozen k;go_wp2_with fail;refine Cn 8 (by kernel_rfl) (by kernel_rfl) ?_;simp only[List.take_succ_cons,List.take_zero,List.drop_succ_cons,List.drop_zero];repeat (go_big_quiet_step (fail))
           refine wpQuiet_nil ?_;rintro w' ⟨nq,rfl⟩;go_wp2_with fail;go_roundw;case rel=>
            refine ⟨k+1,by omega,by go_num,(Rr.drewN nq).far (by simp;omega) _,?_,(Kr.drewN nq).far (by simp;omega) _,(Mr.drewN nq).far (by simp;omega) _,(Vr.drewN nq).far (by simp;omega) _,(N6 Br nq).setCell (by simp;omega) _,by simpa using lr,(Dr.drewN nq).setCell (by simp;omega) _⟩;rw[←B6l _ _ aC aN k hlt,←Ex];exact (Hr.drewN nq).set_ k _
           case measure=>simp[intOf];omega
          ·obtain rfl:k=8:=by omega
           have aT:Bk wr gh 257 (E4 (M1 p (i+1))):=by
            have e:M1 p (i+1)=(Sh.add64 (M1 p i) V).take 8++(M1 p i).drop 8:=by rw[List.take_of_length_le (by omega),List.drop_of_length_le (by omega),List.append_nil];show Yc (M1 p i) (p.drop (128*i))=_;unfold Yc;rw[Hq.out,←HX.out,HV.out]
            rw[e];exact Hr
           clear Hr;go_wp2_with fail;go_roundw;case rel=>
            have bO:128*(i+1)≤p.length:=by have:=aX.out;omega
            refine ⟨i+1,bO,?_,Rr,aT,Kr,⟨X,bK,Mr⟩,Br,lr,Dr⟩;have e:p.drop (128*(i+1))=q.drop 128:=by rw[←Hq.out,List.drop_drop];congr 1
            rw[e];have h1:=aQ.cut (k:=128) (cap:=c) (by simpa using hc);have h2:(if c=128 then some (⟨g,o,none⟩:Addr) else (some (⟨g,o,none⟩:Addr)).map (·.add 128))=(if c=128 then some ⟨g,o,none⟩ else some ⟨g,o+128,none⟩):=by simp[Q3]
            rw[h2]at h1;have h3:q.length-128=(q.drop 128).length:=by simp
            rw[h3];exact By.mk_ (by simp;omega) (by simp[maxLen];omega) (by rw[List.map_drop];exact h1)
           case measure=>simp[B2f];omega
  ·have bS:q.length=0:=by omega
   have aZ:128*i=p.length:=by have:=aX.out;omega
   have aC:=Gu p i;have aE:D9 wr ⟨gh,0,none⟩ 8=some (E4 (M1 p i)):=by have:=Hr.rows;rwa [Ln,aC]at this
   have bT:=Hr.lt;have bA:Dy (M1 p i)=Ww ls.flatten:=by unfold Ww;rw[Hp.out,←aZ,Nat.mul_div_cancel_left _ (by decide)]
   have HS:=Lib.hid bA;generalize M1 p i=S at *;clear bA aQ aZ Dr Kr Mr;go_wp2_with fail;obtain⟨wv,aA⟩:∃x,x=wr.alloc (Obj.cells (c8 (z8 64)).toArray 46):=⟨_,rfl⟩;rw[←aA];generalize hgo':wr.heap.size=go at *;have O0:Bk wv go 46 (c8 (z8 64)):=by rw[aA,←hgo'];exact Bk.new _ _ _
   have R0:Bk wv w.heap.size 46 (c8 (z8 64)):=by rw[aA];exact Rr.alloc _
   have B0:Below w.heap.size w wv:=by rw[aA];exact Br.alloc (by omega) _
   clear aA aE Rr Hr Br hgo' lr;have bB:=Gj S;have hZ:(z8 64).length=8*S.length:=by simp[aC]
   have HZ:=Lib.hid hZ;have bC:=Lib.hid bB;clear hZ bB;go_loopw [198] (fun t wr=>∃k:Nat,k≤8∧t=.int .i64 k∧Bk wr go 46 (c8 ((Dy S).take (8*k+0)++(z8 64).drop (8*k+0)))∧Bk wr w.heap.size 46 (c8 (z8 64))∧Below w.heap.size w wr) (fun t _=>8-(intOf t).toNat)
   case atStart=>exact ⟨0,by omega,rfl,by simpa using O0,R0,B0⟩
   case round=>
    clear O0 R0 B0;obtain⟨k,hk,rfl,Or,Rr,Br⟩:=hrel;by_cases hlt:k<8
    ·go_wp2_with fail;obtain⟨wo,rfl⟩:∃wo:World,wo=wr:=⟨_,rfl⟩;go_loopw [202] (fun t wr=>∃j:Nat,j≤8∧t=.int .i64 j∧Bk wr go 46 (c8 ((Dy S).take (8*k+j)++(z8 64).drop (8*k+j)))∧Bk wr w.heap.size 46 (c8 (z8 64))∧Below w.heap.size w wr) (fun t _=>8-(intOf t).toNat)
     case atStart=>exact ⟨0,by omega,rfl,Or,Rr,Br⟩
     case round=>
      clear Or Rr Br wo;obtain⟨j,hj,rfl,Or,Rr,Br⟩:=hrel;by_cases hlj:j<8
      ·have aL:8*k+j<((Dy S).take (8*k+j)++(z8 64).drop (8*k+j)).length:=by simp[bC.out,aC];omega
       have e0:wr.cell? ⟨go,8*k+j,none⟩=some (.int .u8 (n8 (g8 ((Dy S).take (8*k+j)++(z8 64).drop (8*k+j)) (8*k+j)))):=Or.at_ (Jo aL);have f0:=Or.frozen (8*k+j);have bD:∀x:UInt8,(Lm (E8 S k))[j]?=some x→Bk (wr.setCell ⟨go,8*k+j,none⟩ (.int .u8 (n8 x))) go 46 (c8 ((Dy S).take (8*k+(j+1))++(z8 64).drop (8*k+(j+1)))):=fun x hx=>by
        rw[←C1g S (z8 64) HZ.out k j (by omega) hlj x hx,←Kj];exact Or.set_ _ _
       clear aL;have bP:j=0∨j=1∨j=2∨j=3∨j=4∨j=5∨j=6∨j=7:=by omega
       have aU:=Lib.hid bD;clear bD;rcases bP with rfl | rfl | rfl | rfl | rfl | rfl | rfl | rfl;all_goals
        try simp only[Nat.add_zero]at e0 f0
        go_wp2_with fail;go_roundw;case rel=>exact ⟨_,by omega,by go_num,aU.out _ (by simp[Lm,J3]),Rr.far (by simp;omega) _,Br.setCell (by simp;omega) _⟩
        case measure=>simp[intOf]
      ·obtain rfl:j=8:=by omega
       go_wp2_with fail;go_roundw;case rel=>exact ⟨k+1,by omega,by go_num,Or,Rr,Br⟩
       case measure=>simp[intOf];omega
    ·obtain rfl:k=8:=by omega
     have aI:(Dy S).length=64:=by rw[bC.out,aC]
     have hO:Bk wr go 46 (c8 (Dy S)):=by
      have e:(Dy S).take (8*8+0)++(z8 64).drop (8*8+0)=Dy S:=by rw[List.take_of_length_le (by omega),List.drop_of_length_le (by simp),List.append_nil]
      rw[e]at Or;exact Or
     have aE:D9 wr ⟨go,0,none⟩ 64=some (c8 (Dy S)):=by have:=hO.rows;rwa [C6,aI]at this
     have aS:E7 wr ⟨w.heap.size,0,none⟩ 64=true:=Rr.can (by simp);clear Or hO;go_wp2_with fail;refine bodyPost_ret (C7 rfl _ _ _ _ _ _ rfl (Rr.puts (vs:=c8 (Dy S)) (by simp[aI])) Tryz.underlying46 rfl (by simp[Yr,aI])) rfl ⟨?_,C0 Br (Nat.le_refl _) _⟩;rw[←HS.out];rfl
end Go.Proofs.YtdfpoofbgjilgaaGreat
