/- A part of the proof of DirPlays. -/
import Derived.Test.YtlegpkdighoflaaGreatRbj
import Derived.Test.YtlegpkdighoflaaGreatRbg
set_option linter.unusedVariables false
set_option linter.unusedSimpArgs false
set_option maxRecDepth 100000
set_option maxHeartbeats 40000000
namespace Go.Proofs.YtlegpkdighoflaaGreat
open Go Go.RowKit Sh
def Sg (l:List UInt8):Except Nat Pt:=match rd 256 [] l with
 | .error n=>.error n
 | .ok (p,[])=>.ok p
 | .ok (_,_::_)=>.error 11
def Ry (r:Except Nat Pt) (q:Pt) (n:Int):Prop:=match r with | .ok p=>q=p∧n=0 | .error m=>q=.e∧n=(m:Int)
theorem B9x (i:Nat):U1 (z8 32) i=false:=by
 rw[Hd];have:g8 (z8 32) (i / 8)=0:=by
  unfold g8 z8;rw[List.getD_eq_getElem?_getD,List.getElem?_replicate];split<;>rfl
 rw[this];simp
theorem C2j (v:Value) (l:List UInt8) (w:World) (hv:By w 0 w.heap.size v l) :
 Calls Tryz.prog 38 #[v] w fun e w'=>∃(q:Pt) (n:Int),e=.returned (.tuple #[.agg #[q.val],.int .i64 n])∧Ry (Sg l) q n∧Below w.heap.size w w':=by
 obtain⟨W0,aB⟩:=H8 ((w.alloc (Obj.cells #[.nilIface] 91)).alloc (Obj.cells #[v,.int .i64 0] 124));have B0:Below w.heap.size w W0:=by rw[aB];exact (Cj _ _).alloc (by simp) _
 have R0:Bk W0 w.heap.size 91 [.nilIface]:=by rw[aB];exact (Bk.new w _ [_]).alloc _
 have K0:Bk W0 (w.heap.size+1) 124 [v,.int .i64 0]:=by rw[aB];simpa using Bk.new (w.alloc (Obj.cells #[.nilIface] 91)) 124 [v,.int .i64 0]
 have r0:Pk W0 (w.heap.size+1) l 0:=⟨v,K0,(hv.below B0).more (by omega)⟩;have hn:=C8j (w.heap.size+1) 256 [] (z8 32) (by simp) (fun i hi=>by rw[B9x];rfl) rfl l W0 r0;obtain⟨A,c,aF,aJ,aK,_⟩:=hv.open_;subst aF;go_enter Tryz.func38,Tryz.ntmps38;go_wp2_with fail;rw[←aB];clear aB;refine hn.mono ?_;rintro e w1 ⟨g1,hN⟩;obtain⟨q,l1,aA,rfl,hw,r1,hc⟩:=Pc (way:=[]) rfl hN;clear hn hN r0 K0;have R1:=R0.grown (w':=w1) (row:=some (w.heap.size+1)) g1 (fun e=>by injection e with e;omega);have B1:=B0.grown g1 B0.size (fun k hk=>by injection hk with hk;omega);have HC:=Lib.hid hc;have aL:0≤aA:=by rcases hc with ⟨rfl,_⟩ | ⟨_,n,_,rfl⟩<;>omega
 clear hc g1;obtain⟨u,K1,hu⟩:=r1;obtain⟨A1,aD,rfl,aG,aH,_⟩:=hu.open_;have d0:=K1.at_ (i:=0) rfl;have d1:=K1.at_ (i:=1) rfl;have f1:=K1.frozen 1;have p0:=R1.at_ (i:=0) rfl;have pf:=R1.frozen 0;by_cases hb:aA=0
 ·subst hb;by_cases hl:l1=[]
  ·subst hl;have aC:Ry (Sg l) q 0:=by
    rcases HC.out with ⟨_,hr⟩ | ⟨h,_⟩
    ·unfold Ry Sg;rw[hr];exact ⟨rfl,rfl⟩
    ·exact absurd rfl h
   rcases q.form with hq | ⟨tq,xq,hq⟩
   ·rw[hq];go_wp2_with fail;exact bodyPost_ret (Q4 rfl (P8.row (R1.set_ 0 .nilIface) rfl _ Tryz.underlying91 rfl (by kernel_rfl)) (P8.tmp rfl)) rfl ⟨q,0,by rw[hq];rfl,aC,B1.setCell (by simp) _⟩
   ·rw[hq];go_wp2_with fail;exact bodyPost_ret (Q4 rfl (P8.row (R1.set_ 0 (.iface tq xq)) rfl _ Tryz.underlying91 rfl (by kernel_rfl)) (P8.tmp rfl)) rfl ⟨q,0,by rw[hq];rfl,aC,B1.setCell (by simp) _⟩
  ·have aM:=List.length_pos_iff.2 hl;have aN:decide ((l1.length:Int) > 0)=true:=decide_eq_true (by omega);have K2:=K1.set_ 1 (.int .i64 11);have R2:=R1.far (p:=⟨w.heap.size+1,1,none⟩) (by simp) (.int .i64 11);have B2:Below w.heap.size w (w1.setCell ⟨w.heap.size+1,1,none⟩ (.int .i64 11)):=B1.setCell (show w.heap.size≤w.heap.size+1 by omega) _;obtain⟨W2,aE⟩:=H8 (w1.setCell ⟨w.heap.size+1,1,none⟩ (.int .i64 11));have e1:=K2.at_ (i:=1) rfl;rw[←aE]at K2 R2 B2;go_wp2_with fail;rw[←aE];clear aE e1 d0 d1 f1 p0 pf K1 R1 B1;have p1:W2.drew.cell? ⟨w.heap.size,0,none⟩=some .nilIface:=R2.at_ rfl;have pf1:=R2.frozen 0;have S0:Bk W2.drew (w.heap.size+1) 124 [.slice A1 l1.length aD,.int .i64 11]∧Bk W2.drew w.heap.size 91 [.nilIface]:=⟨K2.drew,R2.drew⟩;refine Gd (fun W=>Bk W (w.heap.size+1) 124 [.slice A1 l1.length aD,.int .i64 11]∧Bk W w.heap.size 91 [.nilIface]) ?_;refine Ec (A:=?A2) [0,1,2,3,4] S0 (fun W hW=>?h2) ?r2;case h2=>have d1:=hW.1.at_ (i:=1) rfl;exact Fo
   case r2=>
    refine Z3 5 fun Q' hQ'=>?_;dsimp only[F0];go_wp2_with fail;refine hQ' _ _ ⟨S0.1.far (by simp) _,S0.2.set_ 0 .nilIface⟩ ?_;clear hQ';refine Z3 6 fun Q' hQ'=>?_;dsimp only[F0];go_wp2_with fail;refine hQ' _ _ ⟨S0.1.far (by simp) _,S0.2.set_ 0 .nilIface⟩ ?_;clear hQ';refine Fq ?_;go_wp2_with fail;refine bodyPost_ret (Q4 rfl (P8.row (S0.2.set_ 0 .nilIface) rfl _ Tryz.underlying91 rfl (by kernel_rfl)) (P8.tmp rfl)) rfl ⟨.e,11,rfl,?_,B2.drew.setCell (by simp) _⟩;rcases HC.out with ⟨_,hr⟩ | ⟨h,_⟩
    ·unfold Ry Sg;rw[hr];cases l1 with
     | nil=>exact absurd rfl hl
     | cons x r=>exact ⟨rfl,rfl⟩
    ·exact absurd rfl h
 ·have aO:=beq_eq_false_iff_ne.2 hb;have aI:(aA != 0)=true:=by simp[hb]
  go_wp2_with fail;have S0:Bk w1.drew (w.heap.size+1) 124 [.slice A1 l1.length aD,.int .i64 aA]∧Bk w1.drew w.heap.size 91 [.nilIface]:=⟨K1.drew,R1.drew⟩;have p1:w1.drew.cell? ⟨w.heap.size,0,none⟩=some .nilIface:=p0;have pf1:w1.drew.frozen? ⟨w.heap.size,0,none⟩=false:=pf;refine Gd (fun W=>Bk W (w.heap.size+1) 124 [.slice A1 l1.length aD,.int .i64 aA]∧Bk W w.heap.size 91 [.nilIface]) ?_;refine Ec (A:=?A1) [0,1,2,3,4] S0 (fun W hW=>?h1) ?r1;case h1=>
   have d1:=hW.1.at_ (i:=1) rfl;exact Fo
  case r1=>
   refine Z3 5 fun Q' hQ'=>?_;dsimp only[F0];go_wp2_with fail;refine hQ' _ _ ⟨S0.1.far (by simp) _,S0.2.set_ 0 .nilIface⟩ ?_;clear hQ';refine Z3 6 fun Q' hQ'=>?_;dsimp only[F0];go_wp2_with fail;refine hQ' _ _ ⟨S0.1.far (by simp) _,S0.2.set_ 0 .nilIface⟩ ?_;clear hQ';refine Fq ?_;go_wp2_with fail;refine bodyPost_ret (Q4 rfl (P8.row (S0.2.set_ 0 .nilIface) rfl _ Tryz.underlying91 rfl (by kernel_rfl)) (P8.tmp rfl)) rfl ⟨.e,aA,rfl,?_,B1.drew.setCell (by simp) _⟩;rcases HC.out with ⟨h,_⟩ | ⟨_,n,hr,hbn⟩
   ·exact absurd h hb
   ·unfold Ry Sg;rw[hr];exact ⟨rfl,hbn⟩
theorem B3h {p:Pt} {P:Nat→Bool} (ok:p.Ok 0 P) (ht:p.Tight):Sg p.bytes=.ok p:=by
 have h:=B1t 256 [] p [] rfl (ok.congr fun i hi=>by simp at hi) ht;rw[List.append_nil]at h;unfold Sg;rw[h]
def D5v (ks:List (List UInt8)):Option (List UInt8):=if ks.length=0 then none else some (Fi ks)
theorem B7e (root id:List UInt8) (hr:root.length=32) (hid:id.length=32) (kv pv:Value) (ks:List (List UInt8)) (l:List UInt8) (p:Pt) (hp:Sg l=.ok p) (hw:p.Wf) (hd:p.Dp 0) (hroot:p.root=root) (hget:p.get id 0=Xy (D5v ks)) (hkn:ks.length≤1000000) (w:World) (hk:Hs w 0 w.heap.size kv ks) (hb:By w 0 w.heap.size pv l) :
 Calls Tryz.prog 16 #[A8 root,A8 id,.agg #[kv,pv]] w fun e w'=>e=.returned (.int .i64 0)∧Below w.heap.size w w':=by
 subst hroot;have HK:=Lib.hid hk;have HB:=Lib.hid hb;have HP:=Lib.hid hp;have HG:=Lib.hid hget;obtain⟨A,c,rfl,bR,bS⟩:=hk.form;obtain⟨A',c',rfl,_⟩:=hb.open_;obtain⟨n,hn⟩:=H8 (ks.length);obtain⟨m,hm⟩:=H8 (l.length);rw[←hn]at HK hkn ⊢;rw[←hm]at HB ⊢;have HN:=Lib.hid hn;clear hk hb hp hget hn hm;obtain⟨w0,bF⟩:=H8 (((w.alloc (Obj.cells (c8 p.root).toArray 23)).alloc (Obj.cells (c8 id).toArray 23)).alloc (Obj.cells #[.slice A n c,.slice A' m c'] 47));have hL:w0=O9 w [(23,c8 p.root),(23,c8 id),(47,[.slice A n c,.slice A' m c'])]:=bF;have B0:=Li hL;have k3:=Me hL rfl;have k4:=Jh 1 hL rfl;have k5:=Jh 2 hL rfl;clear hL;have c1:=k5.at_ (i:=1) (u:=.slice A' m c') rfl;rw[bF]at c1;go_enter Tryz.func16,Tryz.ntmps16;go_wp2_with fail;rw[←bF];clear c1 bF;refine (C2j _ l w0 ((HB.out.below B0).more B0.size)).mono ?_;rintro e w1 ⟨q,n1,rfl,aK,b1⟩;rw[HP.out]at aK;obtain⟨rfl,rfl⟩:q=p∧n1=0:=aK;have B1:=M9 B0 b1;have aL:=k3.bl b1;have aM:=k4.bl b1;have aN:=k5.bl b1;clear k3 k4 k5;go_wp2_with fail;obtain⟨w2,aH⟩:=H8 (w1.alloc (Obj.cells #[q.val] 91));rw[←aH];have kp:Bk w2 w1.heap.size 91 [q.val]:=by rw[aH];exact Bk.new w1 _ [_]
 have aI:=Bu aH aL;have aO:=Bu aH aM;have aP:=Bu aH aN;have B2:=Mx aH B1;generalize w1.heap.size=gp at *;clear aH B1 b1 aL aM aN B0;refine Gd (fun W=>Bk W gp 91 [q.val]∧Bk W w.heap.size 23 (c8 q.root)) ?_;refine Ec (A:=?bT) [0,2] ⟨kp.drew,aI.drew⟩ (fun W hW=>?bK) ?bU;case bK=>have f1:W.cell? ⟨gp,0,none⟩=some q.val:=hW.1.at_ (i:=0) rfl;have f2:=Bk.row8 (n:=32) hW.2 hr;exact Fo
 have S0:=Gr w2;have aQ:=aO.drew;have aR:=aP.drew;have B3:=M9 B2 S0;refine Z3 1 fun Q' hQ'=>?_;dsimp only[F0];have bI:=Lib.hid hQ';clear hQ';go_wp2_with fail;refine (B4b q hw w2.drew).mono ?_;rintro e w4 ⟨rfl,b4⟩;have aJ:=aI.drew.bl b4;have aE:=kp.drew.bl b4;have aS:=aQ.bl b4;have aT:=aR.bl b4;have B4:=M9 B3 b4;go_wp2_with fail;refine bI.out _ _ ⟨aE,aJ⟩ ?_;clear bI;refine Z3 3 fun Q' hQ'=>?_;dsimp only[F0];go_wp2_with fail;refine hQ' _ _ ⟨aE,aJ⟩ ?_;clear hQ';refine Fq ?_;have f1:w4.cell? ⟨gp,0,none⟩=some q.val:=aE.at_ (i:=0) rfl;have f2:=Bk.row8 (n:=32) aS hid;go_wp2_with fail;refine (C3q id hid q hw hd w4).mono ?_;rintro e w5 ⟨rfl,b5⟩;have aF:=aT.bl b5;have B5:=M9 B4 b5;have d0:=aF.at_ (i:=0) (u:=.slice A n c) rfl;rw[HG.out];clear f1 f2 aJ aS aT aE aI aO aP kp aQ aR;obtain⟨W,hW⟩:=H8 (w5.alloc (Obj.cells (c8 (z8 32)).toArray 23));have k9:=KN' hW;have aU:=Bu hW aF;have BW:=Mx hW B5;have z5:w.heap.size≤w5.heap.size:=B5.size;have zW:w5.heap.size<W.heap.size:=by rw[hW];simp
 have aG:=Bk.can8 (n:=32) k9 (by simp);by_cases h0:n=0
 ·subst h0;have ht:D5v ks=none:=if_pos HN.out.symm;rw[ht];dsimp only[C4s,Xy];obtain⟨V,hV⟩:=H8 (E0 W ⟨w5.heap.size,0,none⟩ (c8 (z8 32)));have bG:Bk V w5.heap.size 23 (c8 (z8 32)):=by rw[hV];exact Bk.put8 (n:=32) k9 (by simp) (by simp)
  have aV:Bk V (w.heap.size+2) 47 [.slice A 0 c,.slice A' m c']:=by rw[hV];exact aU.putFar (by have:=aF.lt;simp;omega) _
  have BV:Below w.heap.size w V:=by rw[hV];exact C5 BW z5 _
  have e0:=aV.drew.at_ (i:=0) (u:=.slice A 0 c) rfl;have bV:=aV.at_ (i:=0) (u:=.slice A 0 c) rfl;rw[hW]at aG;go_wp2_with fail;rw[←hW,←hV];clear aG hW hV;go_quiet (fail);go_wp2_with fail;go_ret;exact ⟨rfl,O8 BV _⟩
 ·have ht:D5v ks=some (Fi ks):=if_neg (by rw[←HN.out];exact h0);rw[ht];dsimp only[C4s,Xy];have bJ:=Ir ks;have bL:decide (0<n)=true:=decide_eq_true (by omega);obtain⟨V,hV⟩:=H8 (E0 W ⟨w5.heap.size,0,none⟩ (c8 (Fi ks)));have bG:Bk V w5.heap.size 23 (c8 (Fi ks)):=by rw[hV];exact Bk.put8 (n:=32) k9 (by simp) bJ
  have aV:Bk V (w.heap.size+2) 47 [.slice A n c,.slice A' m c']:=by rw[hV];exact aU.putFar (by have:=aF.lt;simp;omega) _
  have BV:Below w.heap.size w V:=by rw[hV];exact C5 BW z5 _
  rw[hW]at aG;go_wp2_with fail;rw[←hW,←hV];clear aG hW hV;have bM:=Lib.hid ((HK.out.below BV).more BV.size);have S1:=Gr V;refine Gd (fun W=>Bk W w5.heap.size 23 (c8 (Fi ks))∧Bk W (w.heap.size+2) 47 [.slice A n c,.slice A' m c']) ?_;refine Ec (A:=?bX) [0,1,2,3,4,5,6,7,8,9,10,11] ⟨bG.drew,aV.drew⟩ (fun W hW=>?bN) ?bY;case bN=>
   have f1:=hW.2.at_ (i:=0) (u:=.slice A n c) rfl;have f2:=Bk.row8 (n:=32) hW.1 bJ;exact Fo
  refine A2r [zv 12 48 (A8 (Fi ks)),zv 13 49 (.bool false),zv 14 50 (.bool false),zv 15 51 (.bool false),zv 16 35 (.bool false)] (by kernel_rfl) ?bO (fun W hW=>⟨bG.drew.bl hW,aV.drew.bl hW⟩) ?aW ?aX ?aY;case aW=>exact Ng
  case bO=>exact (T7 ⟨(fun o ho us=>by obtain rfl:=Option.some.inj ho;kernel_rfl),(T7 ⟨(fun o ho us=>by obtain rfl:=Option.some.inj ho;kernel_rfl),(T7 ⟨(fun o ho us=>by obtain rfl:=Option.some.inj ho;kernel_rfl),(T7 ⟨(fun o ho us=>by obtain rfl:=Option.some.inj ho;kernel_rfl),(T7 ⟨(fun o ho us=>by obtain rfl:=Option.some.inj ho;kernel_rfl),Mh⟩)⟩)⟩)⟩)⟩)
  case aX=>
   refine (T7 ⟨?aZ,(T7 ⟨?bA,(T7 ⟨?bB,(T7 ⟨?bC,(T7 ⟨?bD,Mh⟩)⟩)⟩)⟩)⟩);case aZ=>
    intro o ho us W hW hp Q' hQ';obtain rfl:=Option.some.inj ho;clear hp ho;rw[C7]at hQ' ⊢;dsimp only[F0,J6,List.foldl,zv]at hQ' ⊢;simp only[Dk];have bP:=Lib.hid ((bM.out.below (E9 S1 hW S1.size)).more (E9 S1 hW S1.size).size);go_wp2_with fail;refine (Wk _ ks W bP.out (by rw[←HN.out];exact hkn)).mono ?_;rintro e W2 ⟨rfl,b2⟩;go_wp2_with fail;exact Ep (hQ' _ _ b2 rfl nofun)
   case bA=>intro o ho us W hW hp Q' hQ';obtain rfl:=Option.some.inj ho;have aA:us 12=A8 (Fi ks):=hp 0 _ rfl (by kernel_rfl);clear hp ho;rw[C7]at hQ' ⊢;dsimp only[F0,J6,List.foldl,zv]at hQ' ⊢;simp only[Dk];rw[aA]at hQ' ⊢;clear aA;go_wp2_with fail;exact Ep (hQ' _ _ (Below.refl _ _) rfl nofun)
   case bB=>intro o ho us W hW hp Q' hQ';obtain rfl:=Option.some.inj ho;have aB:us 13=.bool false:=hp 1 _ rfl (by kernel_rfl);clear hp ho;rw[C7]at hQ' ⊢;dsimp only[F0,J6,List.foldl,zv]at hQ' ⊢;simp only[Dk];rw[aB]at hQ' ⊢;clear aB;go_wp2_with fail;exact Ep (hQ' _ _ (Below.refl _ _) rfl nofun)
   case bC=>intro o ho us W hW hp Q' hQ';obtain rfl:=Option.some.inj ho;have aC:us 14=.bool false:=hp 2 _ rfl (by kernel_rfl);clear hp ho;rw[C7]at hQ' ⊢;dsimp only[F0,J6,List.foldl,zv]at hQ' ⊢;simp only[Dk];rw[aC]at hQ' ⊢;clear aC;go_wp2_with fail;exact Ep (hQ' _ _ (Below.refl _ _) rfl nofun)
   case bD=>intro o ho us W hW hp Q' hQ';obtain rfl:=Option.some.inj ho;have aD:us 15=.bool false:=hp 3 _ rfl (by kernel_rfl);clear hp ho;rw[C7]at hQ' ⊢;dsimp only[F0,J6,List.foldl,zv]at hQ' ⊢;simp only[Dk];rw[aD]at hQ' ⊢;clear aD;go_wp2_with fail;exact Ep (hQ' _ _ (Below.refl _ _) rfl nofun)
  case aY=>
  intro us W2 b3 hg bH bQ;have aA:us 12=A8 (Fi ks):=hg _ (Q6 0 rfl);have aB:us 13=.bool false:=hg _ (Q6 1 rfl);have aC:us 14=.bool false:=hg _ (Q6 2 rfl);have aD:us 15=.bool false:=hg _ (Q6 3 rfl);have bE:us 16=.bool false:=hg _ (Q6 4 rfl);have b4:=M9 S1 b3;rw[C7];dsimp only[J6,List.foldl,zv];simp only[Dk];rw[aA,aB,aC,aD,bE];clear hg bH bQ aA aB aC aD bE b3 S1;refine Fq ?_;go_wp2_with fail;go_ret;exact ⟨rfl,E9 BV b4 BV.size⟩
end Go.Proofs.YtlegpkdighoflaaGreat
