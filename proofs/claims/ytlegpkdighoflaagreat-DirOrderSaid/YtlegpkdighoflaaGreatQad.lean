/- A part of the proof of DirOrder. -/
import Derived.WalkKit
import Derived.WalkLawsBesides
import Derived.Outline
import Derived.Lib.Hide
import Derived.Test.YtlegpkdighoflaaGreatQab
import Derived.Test.YtlegpkdighoflaaGreatQac
set_option linter.unusedVariables false
set_option linter.unusedSimpArgs false
set_option maxRecDepth 100000
set_option maxHeartbeats 40000000
namespace Go.Proofs.YtlegpkdighoflaaGreat
open Go Go.RowKit Sh
def h0:List UInt32:=Db.map fun (r:UInt64)=>(r >>> 32).toUInt32
theorem A6m:h0.length=8:=by decide +kernel
theorem C2y (k:Nat) (hk:k<8):(Ih (h0.take k++(Pz 8).drop k)).set k (.int .u32 (Co ((E9 Db k) >>> 32).toUInt32))=Ih (h0.take (k+1)++(Pz 8).drop (k+1)):=by
 rw[Wd];congr 1;refine Nj _ _ _ _ (by simp[A6m]) (by rw[A6m];exact hk) ?_;unfold h0 E9;have hl:Db.length=8:=by decide +kernel
 rw[List.getElem?_map,List.getElem?_eq_getElem (by omega)];simp[hl,hk]
theorem Jv (v:Value) (ls:List (List UInt8)) (w:World) (hp:M9 w w.heap.size v ls) (hsz:ls.flatten.length≤1099511627776) :
 Calls Tryz.prog 53 #[v] w fun e w'=>e=.returned (A8 (Kh ls.flatten))∧Below w.heap.size w w':=by
 have bJ:Db.length=8:=by decide +kernel
 go_enter Tryz.func53,Tryz.ntmps53;go_wp2_with fail;refine (A0r _).mono ?_;rintro e w1 ⟨rfl,aK⟩;have R1:Bk w1 w.heap.size 23 (c8 (z8 32)):=((Bk.new w _ _).alloc _).below aK (by simp;omega);have H1:Bk w1 (w.heap.size+1) 154 (Ih (Pz 8)):=(by simpa using Bk.new (w.alloc (.cells (c8 (z8 32)).toArray 23)) 154 (Ih (Pz 8)):Bk _ (w.heap.size+1) _ _).below aK (by simp);have B1:Below w.heap.size w w1:=((Bi _ _).alloc (by simp) _).trans (aK.mono (by simp;omega));clear aK;go_wp2_with fail;go_loopw [24] (fun i wr=>∃k:Nat,k≤8∧i=.int .i64 k∧Bk wr w.heap.size 23 (c8 (z8 32))∧Bk wr (w.heap.size+1) 154 (Ih (h0.take k++(Pz 8).drop k))∧Below w.heap.size w wr) (fun i _=>8-(intOf i).toNat)
 case atStart=>exact ⟨0,by omega,rfl,R1,H1,B1⟩
 case round=>
  obtain⟨k,hk,rfl,Rr,Hr,Br⟩:=hrel;clear R1 H1 B1;by_cases hlt:k<8
  ·have bK:wr.cell? ⟨w.heap.size+1,k,none⟩=some (.int .u32 (Co (Ex (h0.take k++(Pz 8).drop k) k))):=Hr.at_ (Eh (by simp[A6m];omega));have bL:=Hr.frozen k;go_wp2;go_roundw;case rel=>exact ⟨k+1,by omega,by go_num,Rr.far (by simp) _,by have:=Hr.set_ k (.int .u32 (Co ((E9 Db k) >>> 32).toUInt32));rwa [C2y k hlt]at this,Br.setCell (by simp) _⟩
   case measure=>simp[intOf];omega
  ·obtain rfl:k=8:=by omega
   go_wp2_with fail;refine (Zo _).mono ?_;rintro e w2 ⟨rfl,aL⟩;have h8:h0.take 8++(Pz 8).drop 8=h0:=by decide +kernel
   rw[h8]at Hr;have R2:=Rr.bl aL;have H2:=Hr.bl aL;have B2:=Br.trans (aL.mono Br.size);have l2:=H2.lt;have aU:Cg.length=80:=by decide +kernel
   clear aL Rr Hr Br h8;go_wp2_with fail;obtain⟨w3,aE⟩:=H8 ((E0 (w2.alloc (Obj.cells (C9 (I3 80)).toArray 157)) ⟨w2.heap.size,0,none⟩ (C9 Cg)).alloc (Obj.cells (Ih (Pz 64)).toArray 159));rw[←aE];have K3:Bk w3 w2.heap.size 157 (C9 Cg):=by rw[aE];exact ((Bk.new _ _ _).puts (by simp[aU])).alloc _
   have M3:Bk w3 (w2.heap.size+1) 159 (Ih (Pz 64)):=by rw[aE];simpa using Bk.new (E0 (w2.alloc (Obj.cells (C9 (I3 80)).toArray 157)) ⟨w2.heap.size,0,none⟩ (C9 Cg)) 159 (Ih (Pz 64))
   have R3:Bk w3 w.heap.size 23 (c8 (z8 32)):=by rw[aE];exact ((R2.alloc _).putFar (by simp;omega) _).alloc _
   have H3:Bk w3 (w.heap.size+1) 154 (Ih h0):=by rw[aE];exact ((H2.alloc _).putFar (by simp;omega) _).alloc _
   have B3:Below w.heap.size w w3:=by rw[aE];exact (C5 (B2.alloc B2.size _) (by exact B2.size) _).alloc (by simp;have:=B2.size;omega) _
   have l3:w3.heap.size=w2.heap.size+2:=by rw[aE];simp
   have P3:=(hp.below B3).more B3.size;generalize hgk:w2.heap.size=gk at *;clear aE R2 H2 B2 aU;refine (Xi 64 (.inl rfl) v ls w3 P3 hsz).mono ?_;rintro e w4 ⟨u,rfl,hu,aG⟩;have K4:=K3.bl aG;have M4:=M3.bl aG;have R4:=R3.bl aG;have H4:=H3.bl aG;have B4:=B3.trans (aG.mono B3.size);have l4:=aG.size;have m3:=M3.lt;generalize hpd:pad 64 ls.flatten=p at *;clear aG K3 M3 R3 H3 B3 P3 hp;have Hp:=Lib.hid hpd;have aO:p.length % 64=0:=by rw[←hpd];exact (A9z _).1
   clear hpd l3 hgk w2;go_wp2_with fail;go_loopw [8] (fun b wr=>∃i:Nat,64*i≤p.length∧By w4 w3.heap.size w4.heap.size b (p.drop (64*i))∧Bk wr w.heap.size 23 (c8 (z8 32))∧Bk wr (w.heap.size+1) 154 (Ih (U4 p i))∧Bk wr gk 157 (C9 Cg)∧(∃M,M.length=64∧Bk wr (gk+1) 159 (Ih M))∧Below w.heap.size w wr∧w4.heap.size≤wr.heap.size∧Pe w3.heap.size w4.heap.size w4 wr) (fun b _=>A5r b)
   case atStart=>exact ⟨0,by omega,by simpa using hu,R4,H4,K4,⟨_,by simp,M4⟩,B4,Nat.le_refl _,Pe.refl _ _ _⟩
   case round=>
    obtain⟨i,hi,hb,Rr,Hr,Kr,⟨M,hM,Mr⟩,Br,lr,Dr⟩:=hrel;clear hu R4 H4 K4 M4 B4;obtain⟨A,c,rfl,hc,bM,aP⟩:=hb.open_;generalize hq:p.drop (64*i)=q at *;have aV:q.length=p.length-64*i:=by rw[←hq];simp
    have bA:q.length % 64=0:=by omega
    have Hq:=Lib.hid hq;have aW:=Lib.hid aV;clear hq aV hb aO;by_cases hgo:0<q.length
    ·obtain⟨g,o,rfl,aM,hg,aA⟩:=aP.some (by simpa using hgo);have bB:64≤q.length:=by omega
     clear bA;go_wp2_with fail;obtain⟨wo,rfl⟩:∃wo:World,wo=wr:=⟨_,rfl⟩;go_loopw [42] (fun t wr=>∃k:Nat,k≤16∧t=.int .i64 k∧Bk wr w.heap.size 23 (c8 (z8 32))∧Bk wr (w.heap.size+1) 154 (Ih (U4 p i))∧Bk wr gk 157 (C9 Cg)∧(∃M,M.length=64∧M.take k=Mx q k∧Bk wr (gk+1) 159 (Ih M))∧Below w.heap.size w wr∧w4.heap.size≤wr.heap.size∧Pe w3.heap.size w4.heap.size w4 wr) (fun t _=>16-(intOf t).toNat)
     case atStart=>exact ⟨0,by omega,rfl,Rr,Hr,Kr,⟨M,hM,rfl,Mr⟩,Br,lr,Dr⟩
     case round=>
      clear Rr Hr Kr Mr Br lr Dr hM M;obtain⟨k,hk,rfl,Rr,Hr,Kr,⟨M,hM,aI,Mr⟩,Br,lr,Dr⟩:=hrel;have HW:=Lib.hid aI;clear aI;by_cases hlt:k<16
      ·have e0:wr.cell? ⟨g,o+4*k,none⟩=some (.int .u8 (n8 (g8 q (4*k)))):=(Dr.cell aM hg).trans (A4j aA (by omega));have e1:wr.cell? ⟨g,o+(4*k+1),none⟩=some (.int .u8 (n8 (g8 q (4*k+1)))):=(Dr.cell aM hg).trans (A4j aA (by omega));have e2:wr.cell? ⟨g,o+(4*k+2),none⟩=some (.int .u8 (n8 (g8 q (4*k+2)))):=(Dr.cell aM hg).trans (A4j aA (by omega));have e3:wr.cell? ⟨g,o+(4*k+3),none⟩=some (.int .u8 (n8 (g8 q (4*k+3)))):=(Dr.cell aM hg).trans (A4j aA (by omega));have em:wr.cell? ⟨gk+1,k,none⟩=some (.int .u32 (Co (Ex M k))):=Mr.at_ (Eh (by omega));have ef:=Mr.frozen k;clear aA;go_wp2_with fail;refine Ay 35 (by kernel_rfl) (by kernel_rfl) ?_;simp only[List.take_succ_cons,List.take_zero,List.drop_succ_cons,List.drop_zero];repeat (go_big_quiet_step (fail))
       refine wpQuiet_nil ?_;rintro w' ⟨nq,rfl⟩;go_wp2_with fail;go_roundw;case rel=>
        refine ⟨k+1,by omega,by go_num,(Rr.drewN nq).far (by simp;omega) _,(Hr.drewN nq).far (by simp;omega) _,(Kr.drewN nq).far (by simp) _,⟨M.set k (Yd q k),by simp[hM],C6x q M k (by omega) hlt HW.out,?_⟩,(Q2 Br nq).setCell (by simp;omega) _,by simpa using lr,(Dr.drewN nq).setCell (by simp;omega) _⟩;rw[←Wd];exact (Mr.drewN nq).set_ k _
       case measure=>simp[intOf];omega
      ·obtain rfl:k=16:=by omega
       go_wp2_with fail;obtain⟨wo,rfl⟩:∃wo:World,wo=wr:=⟨_,rfl⟩;go_loopw [10] (fun t wr=>∃k:Nat,16≤k∧k≤64∧t=.int .i64 k∧Bk wr w.heap.size 23 (c8 (z8 32))∧Bk wr (w.heap.size+1) 154 (Ih (U4 p i))∧Bk wr gk 157 (C9 Cg)∧(∃M,M.length=64∧M.take k=Mx q k∧Bk wr (gk+1) 159 (Ih M))∧Below w.heap.size w wr∧w4.heap.size≤wr.heap.size∧Pe w3.heap.size w4.heap.size w4 wr) (fun t _=>64-(intOf t).toNat)
       case atStart=>exact ⟨16,by omega,by omega,rfl,Rr,Hr,Kr,⟨M,hM,HW.out,Mr⟩,Br,lr,Dr⟩
       case round=>
        clear Rr Hr Kr Mr Br lr Dr hM HW M aA;obtain⟨k,aQ,hk,rfl,Rr,Hr,Kr,⟨M,hM,aI,Mr⟩,Br,lr,Dr⟩:=hrel;have HW:=Lib.hid aI;clear aI;by_cases hlt:k<64
        ·have e0:wr.cell? ⟨gk+1,k-15,none⟩=some (.int .u32 (Co (Ex M (k-15)))):=Mr.at_ (Eh (by omega));have e1:wr.cell? ⟨gk+1,k-2,none⟩=some (.int .u32 (Co (Ex M (k-2)))):=Mr.at_ (Eh (by omega));have e2:wr.cell? ⟨gk+1,k-7,none⟩=some (.int .u32 (Co (Ex M (k-7)))):=Mr.at_ (Eh (by omega));have e3:wr.cell? ⟨gk+1,k-16,none⟩=some (.int .u32 (Co (Ex M (k-16)))):=Mr.at_ (Eh (by omega));have em:wr.cell? ⟨gk+1,k,none⟩=some (.int .u32 (Co (Ex M k))):=Mr.at_ (Eh (by omega));have ef:=Mr.frozen k;go_wp2_with fail;go_quiet (fail);go_wp2_with fail;refine Ay 29 (by kernel_rfl) (by kernel_rfl) ?_;simp only[List.take_succ_cons,List.take_zero,List.drop_succ_cons,List.drop_zero];repeat (go_big_quiet_step ((go_at_call 80;first | exact Gx (Zs _ _ (by omega)) | exact Fw (Zs _ _ (by omega)))))
         refine wpQuiet_nil ?_;rintro w' ⟨bC,rfl⟩;go_wp2_with fail;go_roundw;case rel=>
          refine ⟨k+1,by omega,by omega,by go_num,(Rr.drewN _).far (by simp;omega) _,(Hr.drewN _).far (by simp;omega) _,(Kr.drewN _).far (by simp) _,⟨M.set k (A1w (Ex M (k-2)) (Ex M (k-7)) (Ex M (k-15)) (Ex M (k-16))),by simp[hM],C5k q M k (by omega) aQ HW.out,?_⟩,(Q2 Br _).setCell (by simp;omega) _,by simpa using lr,(Dr.drewN _).setCell (by simp;omega) _⟩;rw[←Wd];exact (Mr.drewN (nq+bC)).set_ k _
         case measure=>simp[intOf];omega
        ·obtain rfl:k=64:=by omega
         have aC:=Jj p i;have aD:I6 wr ⟨w.heap.size+1,0,none⟩ 8=some (Ih (U4 p i)):=by have:=Hr.rows;rwa [Qq,aC]at this
         obtain⟨X,hX⟩:=H8 (Mx q 64);have aX:=C2m q M HW.out hM;rw[aX,←hX]at Mr;have bD:X.length=64:=by rw[hX];exact A7e q 64
         have HX:=Lib.hid hX;clear hX aX;have bN:=Hr.lt;have bE:=lr;go_wp2_with fail;generalize hgv':wr.heap.size=gv at *;obtain⟨wv,aB⟩:=H8 (E0 (wr.alloc (Obj.cells (Ih (Pz 8)).toArray 154)) ⟨gv,0,none⟩ (Ih (U4 p i)));rw[←aB];have V0:Bk wv gv 154 (Ih (U4 p i)):=by rw[aB];have:=Bk.new wr 154 (Ih (Pz 8));rw[hgv']at this;exact this.puts (by simp[aC])
         have R0:Bk wv w.heap.size 23 (c8 (z8 32)):=by rw[aB];exact (Rr.alloc _).putFar (by simp;omega) _
         have H0:Bk wv (w.heap.size+1) 154 (Ih (U4 p i)):=by rw[aB];exact (Hr.alloc _).putFar (by simp;omega) _
         have K0:Bk wv gk 157 (C9 Cg):=by rw[aB];exact (Kr.alloc _).putFar (by simp;omega) _
         have M0:Bk wv (gk+1) 159 (Ih X):=by rw[aB];exact (Mr.alloc _).putFar (by simp;omega) _
         have B0:Below w.heap.size w wv:=by rw[aB];exact C5 (Br.alloc Br.size _) (by simp;omega) _
         have L0:w4.heap.size≤wv.heap.size:=by rw[aB];simp;omega
         have D0:Pe w3.heap.size w4.heap.size w4 wv:=by rw[aB];exact (Dr.alloc (by omega) _).putAt (by simp;omega) _
         clear aB aD Rr Hr Kr Mr Br Dr HW hM hgv' lr wr;go_loopw [123] (fun t wr=>∃k:Nat,k≤64∧t=.int .i64 k∧Bk wr w.heap.size 23 (c8 (z8 32))∧Bk wr (w.heap.size+1) 154 (Ih (U4 p i))∧Bk wr gk 157 (C9 Cg)∧Bk wr (gk+1) 159 (Ih X)∧Bk wr gv 154 (Ih (Kg (U4 p i) X k))∧Below w.heap.size w wr∧w4.heap.size≤wr.heap.size∧Pe w3.heap.size w4.heap.size w4 wr) (fun t _=>64-(intOf t).toNat)
         case atStart=>exact ⟨0,by omega,rfl,R0,H0,K0,M0,V0,B0,L0,D0⟩
         case round=>
          clear R0 H0 K0 M0 V0 B0 L0 D0 wv;obtain⟨k,hk,rfl,Rr,Hr,Kr,Mr,Vr,Br,lr,Dr⟩:=hrel;have aN:=Pb (U4 p i) X aC k;have aF:Kg (U4 p i) X (k+1)=A2d (Kg (U4 p i) X k) (K32 k) (Ex X k):=rfl;have bF:=Lib.hid aF;clear aF;generalize hV:Kg (U4 p i) X k=V at *;have HV:=Lib.hid hV;clear hV;by_cases hlt:k<64
          ·have v0:wr.cell? ⟨gv,0,none⟩=some (.int .u32 (Co (Ex V 0))):=Vr.at_ (Eh (by omega));have v1:wr.cell? ⟨gv,1,none⟩=some (.int .u32 (Co (Ex V 1))):=Vr.at_ (Eh (by omega));have v2:wr.cell? ⟨gv,2,none⟩=some (.int .u32 (Co (Ex V 2))):=Vr.at_ (Eh (by omega));have v3:wr.cell? ⟨gv,3,none⟩=some (.int .u32 (Co (Ex V 3))):=Vr.at_ (Eh (by omega));have v4:wr.cell? ⟨gv,4,none⟩=some (.int .u32 (Co (Ex V 4))):=Vr.at_ (Eh (by omega));have v5:wr.cell? ⟨gv,5,none⟩=some (.int .u32 (Co (Ex V 5))):=Vr.at_ (Eh (by omega));have v6:wr.cell? ⟨gv,6,none⟩=some (.int .u32 (Co (Ex V 6))):=Vr.at_ (Eh (by omega));have v7:wr.cell? ⟨gv,7,none⟩=some (.int .u32 (Co (Ex V 7))):=Vr.at_ (Eh (by omega));have ek:wr.cell? ⟨gk,k,none⟩=some (.int .u64 (J0 (E9 Cg k))):=Kr.at_ (J1 (by simp[Cg];omega));have em:wr.cell? ⟨gk+1,k,none⟩=some (.int .u32 (Co (Ex X k))):=Mr.at_ (Eh (by omega));have aR:P7 wr ⟨gv,0,none⟩ 8=true:=Vr.can (by simp[aN]);go_wp2_with fail;go_quiet (fail);go_wp2_with fail;go_quiet ((go_at_call 80;first | exact Gx (Zs _ _ (by omega)) | exact Fw (Zs _ _ (by omega))));go_wp2_with fail;go_quiet ((go_at_call 80;first | exact Gx (Zs _ _ (by omega)) | exact Fw (Zs _ _ (by omega))));go_wp2_with fail;go_roundw;case rel=>
            refine ⟨k+1,by omega,by go_num,(Rr.drewN _).putFar (by simp;omega) _,(Hr.drewN _).putFar (by simp;omega) _,(Kr.drewN _).putFar (by simp;omega) _,(Mr.drewN _).putFar (by simp;omega) _,?_,C5 (Q2 Br _) (by simp;omega) _,by simpa using lr,(Dr.drewN _).putAt (by simp;omega) _⟩;rw[bF.out];exact (Vr.drewN _).puts (by simp[aN])
           case measure=>simp[intOf];omega
          ·obtain rfl:k=64:=by omega
           go_wp2_with fail;obtain⟨wo,rfl⟩:∃wo:World,wo=wr:=⟨_,rfl⟩;go_loopw [207] (fun t wr=>∃k:Nat,k≤8∧t=.int .i64 k∧Bk wr w.heap.size 23 (c8 (z8 32))∧Bk wr (w.heap.size+1) 154 (Ih ((Sh.add32 (U4 p i) V).take k++(U4 p i).drop k))∧Bk wr gk 157 (C9 Cg)∧Bk wr (gk+1) 159 (Ih X)∧Bk wr gv 154 (Ih V)∧Below w.heap.size w wr∧w4.heap.size≤wr.heap.size∧Pe w3.heap.size w4.heap.size w4 wr) (fun t _=>8-(intOf t).toNat)
           case atStart=>exact ⟨0,by omega,rfl,Rr,by simpa using Hr,Kr,Mr,Vr,Br,lr,Dr⟩
           case round=>
            clear Rr Hr Kr Mr Vr Br lr Dr wo;obtain⟨k,hk,rfl,Rr,Hr,Kr,Mr,Vr,Br,lr,Dr⟩:=hrel;have bG:(Sh.add32 (U4 p i) V).length=8:=by simp[Sh.add32,aC,aN]
            by_cases hlt:k<8
            ·have eh:wr.cell? ⟨w.heap.size+1,k,none⟩=some (.int .u32 (Co (Ex (U4 p i) k))):=by have:=Hr.at_ (Eh (i:=k) (by simp[bG,aC];omega));rwa [B6u _ _ _ (by omega)]at this
             have ev:wr.cell? ⟨gv,k,none⟩=some (.int .u32 (Co (Ex V k))):=Vr.at_ (Eh (by omega));have ef:=Hr.frozen k;go_wp2_with fail;refine Ay 8 (by kernel_rfl) (by kernel_rfl) ?_;simp only[List.take_succ_cons,List.take_zero,List.drop_succ_cons,List.drop_zero];repeat (go_big_quiet_step (fail))
             refine wpQuiet_nil ?_;rintro w' ⟨nq,rfl⟩;go_wp2_with fail;go_roundw;case rel=>
              refine ⟨k+1,by omega,by go_num,(Rr.drewN nq).far (by simp) _,?_,(Kr.drewN nq).far (by simp;omega) _,(Mr.drewN nq).far (by simp;omega) _,(Vr.drewN nq).far (by simp;omega) _,(Q2 Br nq).setCell (by simp) _,by simpa using lr,(Dr.drewN nq).setCell (by simp;omega) _⟩;rw[←A7j _ _ aC aN k hlt,←Wd];exact (Hr.drewN nq).set_ k _
             case measure=>simp[intOf];omega
            ·obtain rfl:k=8:=by omega
             have aS:Bk wr (w.heap.size+1) 154 (Ih (U4 p (i+1))):=by
              have e:U4 p (i+1)=(Sh.add32 (U4 p i) V).take 8++(U4 p i).drop 8:=by rw[List.take_of_length_le (by omega),List.drop_of_length_le (by omega),List.append_nil];show Wb (U4 p i) (p.drop (64*i))=_;unfold Wb;rw[Hq.out,←HX.out,HV.out]
              rw[e];exact Hr
             clear Hr;go_wp2_with fail;go_roundw;case rel=>
              have bH:64*(i+1)≤p.length:=by have:=aW.out;omega
              refine ⟨i+1,bH,?_,Rr,aS,Kr,⟨X,bD,Mr⟩,Br,lr,Dr⟩;have e:p.drop (64*(i+1))=q.drop 64:=by rw[←Hq.out,List.drop_drop];congr 1
              rw[e];have h1:=aP.cut (k:=64) (cap:=c) (by simpa using hc);have h2:(if c=64 then some (⟨g,o,none⟩:Addr) else (some (⟨g,o,none⟩:Addr)).map (·.add 64))=(if c=64 then some ⟨g,o,none⟩ else some ⟨g,o+64,none⟩):=by simp[Bq]
              rw[h2]at h1;have h3:q.length-64=(q.drop 64).length:=by simp
              rw[h3];exact By.mk_ (by simp;omega) (by simp[maxLen];omega) (by rw[List.map_drop];exact h1)
             case measure=>simp[A5r];omega
    ·have bO:q.length=0:=by omega
     have aY:64*i=p.length:=by have:=aW.out;omega
     have aC:=Jj p i;have aD:I6 wr ⟨w.heap.size+1,0,none⟩ 8=some (Ih (U4 p i)):=by have:=Hr.rows;rwa [Qq,aC]at this
     have bI:=Hr.lt;have aZ:Fx (U4 p i)=Kh ls.flatten:=by unfold Kh;rw[Hp.out,←aY,Nat.mul_div_cancel_left _ (by decide)]
     have HS:=Lib.hid aZ;generalize U4 p i=S at *;clear aZ aP aY Dr Kr Mr;go_wp2_with fail;obtain⟨wv,aB⟩:=H8 (wr.alloc (Obj.cells (c8 (z8 32)).toArray 23));rw[←aB];generalize hgo':wr.heap.size=go at *;have O0:Bk wv go 23 (c8 (z8 32)):=by rw[aB,←hgo'];exact Bk.new _ _ _
     have R0:=Y3 aB Rr;have B0:Below w.heap.size w wv:=by rw[aB];exact Br.alloc (by omega) _
     have l0:wv.heap.size=go+1:=by rw[aB];simp[hgo']
     clear aB aD Rr Hr Br hgo' lr;have bP:w.heap.size+1<go:=bI;go_loopw [220] (fun t wr=>∃k:Nat,k≤8∧t=.int .i64 k∧Bk wr go 23 (c8 ((Fx S).take (4*k)++(z8 32).drop (4*k)))∧Bk wr w.heap.size 23 (c8 (z8 32))∧Below w.heap.size w wr) (fun t _=>8-(intOf t).toNat)
     case atStart=>exact ⟨0,by omega,rfl,by simpa using O0,R0,B0⟩
     case round=>
      clear O0 R0 B0 l0;obtain⟨k,hk,rfl,Or,Rr,Br⟩:=hrel;have aT:=Iq S;have aJ:((Fx S).take (4*k)++(z8 32).drop (4*k)).length=32:=by simp[aT,aC];omega
      by_cases hlt:k<8
      ·have e0:wr.cell? ⟨go,4*k,none⟩=some (.int .u8 (n8 (g8 ((Fx S).take (4*k)++(z8 32).drop (4*k)) (4*k)))):=Or.at_ (Ej (by omega));have e1:wr.cell? ⟨go,4*k+1,none⟩=some (.int .u8 (n8 (g8 ((Fx S).take (4*k)++(z8 32).drop (4*k)) (4*k+1)))):=Or.at_ (Ej (by omega));have e2:wr.cell? ⟨go,4*k+2,none⟩=some (.int .u8 (n8 (g8 ((Fx S).take (4*k)++(z8 32).drop (4*k)) (4*k+2)))):=Or.at_ (Ej (by omega));have e3:wr.cell? ⟨go,4*k+3,none⟩=some (.int .u8 (n8 (g8 ((Fx S).take (4*k)++(z8 32).drop (4*k)) (4*k+3)))):=Or.at_ (Ej (by omega));have f0:=Or.frozen (4*k);have f1:=Or.frozen (4*k+1);have f2:=Or.frozen (4*k+2);have f3:=Or.frozen (4*k+3);clear aJ aT;go_wp2_with fail;go_roundw;case rel=>
        have hZ:(z8 32).length=4*S.length:=by simp[aC]
        refine ⟨k+1,by omega,by go_num,?_,(((Rr.far (by simp;omega) _).far (by simp;omega) _).far (by simp;omega) _).far (by simp;omega) _,(((Br.setCell (by simp;omega) _).setCell (by simp;omega) _).setCell (by simp;omega) _).setCell (by simp;omega) _⟩;have h1:=Pk S (z8 32) hZ k 0 (by omega) (by omega) _ rfl;have h2:=Pk S (z8 32) hZ k 1 (by omega) (by omega) _ rfl;have h3:=Pk S (z8 32) hZ k 2 (by omega) (by omega) _ rfl;have h4:=Pk S (z8 32) hZ k 3 (by omega) (by omega) _ rfl;have h5:=(((Or.set_ (4*k) (.int .u8 (n8 (Ex S k >>> 24).toUInt8))).set_ (4*k+1) (.int .u8 (n8 (Ex S k >>> 16).toUInt8))).set_ (4*k+2) (.int .u8 (n8 (Ex S k >>> 8).toUInt8))).set_ (4*k+3) (.int .u8 (n8 (Ex S k).toUInt8));rw[Ft,Ft,Ft,Ft]at h5;simp only[Nat.add_zero,Nat.zero_add]at h1 h2 h3 h4;rw[h1,h2,h3,h4]at h5;exact h5
       case measure=>simp[intOf];omega
      ·obtain rfl:k=8:=by omega
       have hO:Bk wr go 23 (c8 (Fx S)):=by
        have e:(Fx S).take (4*8)++(z8 32).drop (4*8)=Fx S:=by rw[List.take_of_length_le (by omega),List.drop_of_length_le (by simp),List.append_nil]
        rw[e]at Or;exact Or
       have aH:(Fx S).length=32:=by omega
       have aD:I6 wr ⟨go,0,none⟩ 32=some (c8 (Fx S)):=by have:=hO.rows;rwa [I7,aH]at this
       have aR:=Fu 32 Rr (by simp);clear aJ aT Or hO;go_wp2_with fail;refine bodyPost_ret (E5 rfl _ _ _ _ _ _ rfl (Rr.puts (vs:=c8 (Fx S)) (by simp[aH])) Tryz.underlying23 rfl (by simp[O7,aH])) rfl ⟨?_,C5 Br (Nat.le_refl _) _⟩;rw[←HS.out];rfl
end Go.Proofs.YtlegpkdighoflaaGreat
