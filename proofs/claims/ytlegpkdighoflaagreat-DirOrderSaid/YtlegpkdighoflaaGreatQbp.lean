/- A part of the proof of DirOrder. -/
import Derived.Test.YtlegpkdighoflaaGreatQbj
import Derived.Test.YtlegpkdighoflaaGreatQbk
import Derived.Test.YtlegpkdighoflaaGreatQbl
import Derived.Test.YtlegpkdighoflaaGreatQbm
import Derived.Test.YtlegpkdighoflaaGreatQbn
import Derived.Test.YtlegpkdighoflaaGreatQbo
import Derived.Test.YtlegpkdighoflaaGreatQbi
set_option linter.unusedVariables false
set_option linter.unusedSimpArgs false
set_option maxRecDepth 100000
set_option maxHeartbeats 40000000
namespace Go.Proofs.YtlegpkdighoflaaGreat
open Go Go.RowKit Sh
def Ox (l:List UInt8):Except Nat Pt:=match rd 256 [] l with
 | .error n=>.error n
 | .ok (p,[])=>.ok p
 | .ok (_,_::_)=>.error 11
def Oi (r:Except Nat Pt) (q:Pt) (n:Int):Prop:=match r with | .ok p=>q=p∧n=0 | .error m=>q=.e∧n=(m:Int)
theorem B2f (i:Nat):P6 (z8 32) i=false:=by
 rw[Lj];have:g8 (z8 32) (i / 8)=0:=by
  unfold g8 z8;rw[List.getD_eq_getElem?_getD,List.getElem?_replicate];split<;>rfl
 rw[this];simp
theorem B2a (v:Value) (l:List UInt8) (w:World) (hv:By w 0 w.heap.size v l) :
 Calls Tryz.prog 38 #[v] w fun e w'=>∃(q:Pt) (n:Int),e=.returned (.tuple #[.agg #[q.val],.int .i64 n])∧Oi (Ox l) q n∧Below w.heap.size w w':=by
 obtain⟨W0,aB⟩:=H8 ((w.alloc (Obj.cells #[.nilIface] 91)).alloc (Obj.cells #[v,.int .i64 0] 124));have B0:Below w.heap.size w W0:=by rw[aB];exact (Bi _ _).alloc (by simp) _
 have R0:Bk W0 w.heap.size 91 [.nilIface]:=by rw[aB];exact (Bk.new w _ [_]).alloc _
 have K0:Bk W0 (w.heap.size+1) 124 [v,.int .i64 0]:=by rw[aB];simpa using Bk.new (w.alloc (Obj.cells #[.nilIface] 91)) 124 [v,.int .i64 0]
 have r0:Lf W0 (w.heap.size+1) l 0:=⟨v,K0,(hv.below B0).more (by omega)⟩;have hn:=B5w (w.heap.size+1) 256 [] (z8 32) (by simp) (fun i hi=>by rw[B2f];rfl) rfl l W0 r0;obtain⟨A,c,aF,aJ,aK,_⟩:=hv.open_;subst aF;go_enter Tryz.func38,Tryz.ntmps38;go_wp2_with fail;rw[←aB];clear aB;refine hn.mono ?_;rintro e w1 ⟨g1,hN⟩;obtain⟨q,l1,aA,rfl,hw,r1,hc⟩:=Kx (way:=[]) rfl hN;clear hn hN r0 K0;have R1:=R0.grown (w':=w1) (row:=some (w.heap.size+1)) g1 (fun e=>by injection e with e;omega);have B1:=B0.grown g1 B0.size (fun k hk=>by injection hk with hk;omega);have HC:=Lib.hid hc;have aL:0≤aA:=by rcases hc with ⟨rfl,_⟩ | ⟨_,n,_,rfl⟩<;>omega
 clear hc g1;obtain⟨u,K1,hu⟩:=r1;obtain⟨A1,aD,rfl,aG,aH,_⟩:=hu.open_;have d0:=K1.at_ (i:=0) rfl;have d1:=K1.at_ (i:=1) rfl;have f1:=K1.frozen 1;have p0:=R1.at_ (i:=0) rfl;have pf:=R1.frozen 0;by_cases hb:aA=0
 ·subst hb;by_cases hl:l1=[]
  ·subst hl;have aC:Oi (Ox l) q 0:=by
    rcases HC.out with ⟨_,hr⟩ | ⟨h,_⟩
    ·unfold Oi Ox;rw[hr];exact ⟨rfl,rfl⟩
    ·exact absurd rfl h
   rcases q.form with hq | ⟨tq,xq,hq⟩
   ·rw[hq];go_wp2_with fail;exact bodyPost_ret (M7 rfl (L6.row (R1.set_ 0 .nilIface) rfl _ Tryz.underlying91 rfl (by kernel_rfl)) (L6.tmp rfl)) rfl ⟨q,0,by rw[hq];rfl,aC,B1.setCell (by simp) _⟩
   ·rw[hq];go_wp2_with fail;exact bodyPost_ret (M7 rfl (L6.row (R1.set_ 0 (.iface tq xq)) rfl _ Tryz.underlying91 rfl (by kernel_rfl)) (L6.tmp rfl)) rfl ⟨q,0,by rw[hq];rfl,aC,B1.setCell (by simp) _⟩
  ·have aM:=List.length_pos_iff.2 hl;have aN:decide ((l1.length:Int) > 0)=true:=decide_eq_true (by omega);have K2:=K1.set_ 1 (.int .i64 11);have R2:=R1.far (p:=⟨w.heap.size+1,1,none⟩) (by simp) (.int .i64 11);have B2:Below w.heap.size w (w1.setCell ⟨w.heap.size+1,1,none⟩ (.int .i64 11)):=B1.setCell (show w.heap.size≤w.heap.size+1 by omega) _;obtain⟨W2,aE⟩:=H8 (w1.setCell ⟨w.heap.size+1,1,none⟩ (.int .i64 11));have e1:=K2.at_ (i:=1) rfl;rw[←aE]at K2 R2 B2;go_wp2_with fail;rw[←aE];clear aE e1 d0 d1 f1 p0 pf K1 R1 B1;have p1:W2.drew.cell? ⟨w.heap.size,0,none⟩=some .nilIface:=R2.at_ rfl;have pf1:=R2.frozen 0;have S0:Bk W2.drew (w.heap.size+1) 124 [.slice A1 l1.length aD,.int .i64 11]∧Bk W2.drew w.heap.size 91 [.nilIface]:=⟨K2.drew,R2.drew⟩;refine Dm (fun W=>Bk W (w.heap.size+1) 124 [.slice A1 l1.length aD,.int .i64 11]∧Bk W w.heap.size 91 [.nilIface]) ?_;refine Cf (A:=?A2) [0,1,2,3,4] S0 (fun W hW=>?h2) ?r2;case h2=>have d1:=hW.1.at_ (i:=1) rfl;exact Dd
   case r2=>
    refine U0 5 fun Q' hQ'=>?_;dsimp only[F8];go_wp2_with fail;refine hQ' _ _ ⟨S0.1.far (by simp) _,S0.2.set_ 0 .nilIface⟩ ?_;clear hQ';refine U0 6 fun Q' hQ'=>?_;dsimp only[F8];go_wp2_with fail;refine hQ' _ _ ⟨S0.1.far (by simp) _,S0.2.set_ 0 .nilIface⟩ ?_;clear hQ';refine Cu ?_;go_wp2_with fail;refine bodyPost_ret (M7 rfl (L6.row (S0.2.set_ 0 .nilIface) rfl _ Tryz.underlying91 rfl (by kernel_rfl)) (L6.tmp rfl)) rfl ⟨.e,11,rfl,?_,B2.drew.setCell (by simp) _⟩;rcases HC.out with ⟨_,hr⟩ | ⟨h,_⟩
    ·unfold Oi Ox;rw[hr];cases l1 with
     | nil=>exact absurd rfl hl
     | cons x r=>exact ⟨rfl,rfl⟩
    ·exact absurd rfl h
 ·have aO:=beq_eq_false_iff_ne.2 hb;have aI:(aA != 0)=true:=by simp[hb]
  go_wp2_with fail;have S0:Bk w1.drew (w.heap.size+1) 124 [.slice A1 l1.length aD,.int .i64 aA]∧Bk w1.drew w.heap.size 91 [.nilIface]:=⟨K1.drew,R1.drew⟩;have p1:w1.drew.cell? ⟨w.heap.size,0,none⟩=some .nilIface:=p0;have pf1:w1.drew.frozen? ⟨w.heap.size,0,none⟩=false:=pf;refine Dm (fun W=>Bk W (w.heap.size+1) 124 [.slice A1 l1.length aD,.int .i64 aA]∧Bk W w.heap.size 91 [.nilIface]) ?_;refine Cf (A:=?A1) [0,1,2,3,4] S0 (fun W hW=>?h1) ?r1;case h1=>
   have d1:=hW.1.at_ (i:=1) rfl;exact Dd
  case r1=>
   refine U0 5 fun Q' hQ'=>?_;dsimp only[F8];go_wp2_with fail;refine hQ' _ _ ⟨S0.1.far (by simp) _,S0.2.set_ 0 .nilIface⟩ ?_;clear hQ';refine U0 6 fun Q' hQ'=>?_;dsimp only[F8];go_wp2_with fail;refine hQ' _ _ ⟨S0.1.far (by simp) _,S0.2.set_ 0 .nilIface⟩ ?_;clear hQ';refine Cu ?_;go_wp2_with fail;refine bodyPost_ret (M7 rfl (L6.row (S0.2.set_ 0 .nilIface) rfl _ Tryz.underlying91 rfl (by kernel_rfl)) (L6.tmp rfl)) rfl ⟨.e,aA,rfl,?_,B1.drew.setCell (by simp) _⟩;rcases HC.out with ⟨h,_⟩ | ⟨_,n,hr,hbn⟩
   ·exact absurd h hb
   ·unfold Oi Ox;rw[hr];exact ⟨rfl,hbn⟩
theorem A3d {p:Pt} {P:Nat→Bool} (ok:p.Ok 0 P) (ht:p.Tight):Ox p.bytes=.ok p:=by
 have h:=A5g 256 [] p [] rfl (ok.congr fun i hi=>by simp at hi) ht;rw[List.append_nil]at h;unfold Ox;rw[h]
def C6h (ks:List (List UInt8)):Option (List UInt8):=if ks.length=0 then none else some (Dq ks)
theorem A7b (root id:List UInt8) (hr:root.length=32) (hid:id.length=32) (kv pv:Value) (ks:List (List UInt8)) (l:List UInt8) (p:Pt) (hp:Ox l=.ok p) (hw:p.Wf) (hd:p.Dp 0) (hroot:p.root=root) (hget:p.get id 0=Rq (C6h ks)) (hkn:ks.length≤1000000) (w:World) (hk:Hs w 0 w.heap.size kv ks) (hb:By w 0 w.heap.size pv l) :
 Calls Tryz.prog 16 #[A8 root,A8 id,.agg #[kv,pv]] w fun e w'=>e=.returned (.int .i64 0)∧Below w.heap.size w w':=by
 subst hroot;have HK:=Lib.hid hk;have HB:=Lib.hid hb;have HP:=Lib.hid hp;have HG:=Lib.hid hget;obtain⟨A,c,rfl,bR,bS⟩:=hk.form;obtain⟨A',c',rfl,_⟩:=hb.open_;obtain⟨n,hn⟩:=H8 (ks.length);obtain⟨m,hm⟩:=H8 (l.length);rw[←hn]at HK hkn ⊢;rw[←hm]at HB ⊢;have HN:=Lib.hid hn;clear hk hb hp hget hn hm;obtain⟨w0,bF⟩:=H8 (((w.alloc (Obj.cells (c8 p.root).toArray 23)).alloc (Obj.cells (c8 id).toArray 23)).alloc (Obj.cells #[.slice A n c,.slice A' m c'] 47));have hL:w0=M2 w [(23,c8 p.root),(23,c8 id),(47,[.slice A n c,.slice A' m c'])]:=bF;have B0:=Jc hL;have k3:=Jy hL rfl;have k4:=Gs 1 hL rfl;have k5:=Gs 2 hL rfl;clear hL;have c1:=k5.at_ (i:=1) (u:=.slice A' m c') rfl;rw[bF]at c1;go_enter Tryz.func16,Tryz.ntmps16;go_wp2_with fail;rw[←bF];clear c1 bF;refine (B2a _ l w0 ((HB.out.below B0).more B0.size)).mono ?_;rintro e w1 ⟨q,n1,rfl,aK,b1⟩;rw[HP.out]at aK;obtain⟨rfl,rfl⟩:q=p∧n1=0:=aK;have B1:=J5 B0 b1;have aL:=k3.bl b1;have aM:=k4.bl b1;have aN:=k5.bl b1;clear k3 k4 k5;go_wp2_with fail;obtain⟨w2,aH⟩:=H8 (w1.alloc (Obj.cells #[q.val] 91));rw[←aH];have kp:Bk w2 w1.heap.size 91 [q.val]:=by rw[aH];exact Bk.new w1 _ [_]
 have aI:=Y3 aH aL;have aO:=Y3 aH aM;have aP:=Y3 aH aN;have B2:=Jx aH B1;generalize w1.heap.size=gp at *;clear aH B1 b1 aL aM aN B0;refine Dm (fun W=>Bk W gp 91 [q.val]∧Bk W w.heap.size 23 (c8 q.root)) ?_;refine Cf (A:=?bT) [0,2] ⟨kp.drew,aI.drew⟩ (fun W hW=>?bK) ?bU;case bK=>have f1:W.cell? ⟨gp,0,none⟩=some q.val:=hW.1.at_ (i:=0) rfl;have f2:=Bk.row8 (n:=32) hW.2 hr;exact Dd
 have S0:=Eo w2;have aQ:=aO.drew;have aR:=aP.drew;have B3:=J5 B2 S0;refine U0 1 fun Q' hQ'=>?_;dsimp only[F8];have bI:=Lib.hid hQ';clear hQ';go_wp2_with fail;refine (A6i q hw w2.drew).mono ?_;rintro e w4 ⟨rfl,b4⟩;have aJ:=aI.drew.bl b4;have aE:=kp.drew.bl b4;have aS:=aQ.bl b4;have aT:=aR.bl b4;have B4:=J5 B3 b4;go_wp2_with fail;refine bI.out _ _ ⟨aE,aJ⟩ ?_;clear bI;refine U0 3 fun Q' hQ'=>?_;dsimp only[F8];go_wp2_with fail;refine hQ' _ _ ⟨aE,aJ⟩ ?_;clear hQ';refine Cu ?_;have f1:w4.cell? ⟨gp,0,none⟩=some q.val:=aE.at_ (i:=0) rfl;have f2:=Bk.row8 (n:=32) aS hid;go_wp2_with fail;refine (B6n id hid q hw hd w4).mono ?_;rintro e w5 ⟨rfl,b5⟩;have aF:=aT.bl b5;have B5:=J5 B4 b5;have d0:=aF.at_ (i:=0) (u:=.slice A n c) rfl;rw[HG.out];clear f1 f2 aJ aS aT aE aI aO aP kp aQ aR;obtain⟨W,hW⟩:=H8 (w5.alloc (Obj.cells (c8 (z8 32)).toArray 23));have k9:=KN' hW;have aU:=Y3 hW aF;have BW:=Jx hW B5;have z5:w.heap.size≤w5.heap.size:=B5.size;have zW:w5.heap.size<W.heap.size:=by rw[hW];simp
 have aG:=Bk.can8 (n:=32) k9 (by simp);by_cases h0:n=0
 ·subst h0;have ht:C6h ks=none:=if_pos HN.out.symm;rw[ht];dsimp only[B6i,Rq];obtain⟨V,hV⟩:=H8 (E0 W ⟨w5.heap.size,0,none⟩ (c8 (z8 32)));have bG:Bk V w5.heap.size 23 (c8 (z8 32)):=by rw[hV];exact Bk.put8 (n:=32) k9 (by simp) (by simp)
  have aV:Bk V (w.heap.size+2) 47 [.slice A 0 c,.slice A' m c']:=by rw[hV];exact aU.putFar (by have:=aF.lt;simp;omega) _
  have BV:Below w.heap.size w V:=by rw[hV];exact C5 BW z5 _
  have e0:=aV.drew.at_ (i:=0) (u:=.slice A 0 c) rfl;have bV:=aV.at_ (i:=0) (u:=.slice A 0 c) rfl;rw[hW]at aG;go_wp2_with fail;rw[←hW,←hV];clear aG hW hV;go_quiet (fail);go_wp2_with fail;go_ret;exact ⟨rfl,Q2 BV _⟩
 ·have ht:C6h ks=some (Dq ks):=if_neg (by rw[←HN.out];exact h0);rw[ht];dsimp only[B6i,Rq];have bJ:=Gj ks;have bL:decide (0<n)=true:=decide_eq_true (by omega);obtain⟨V,hV⟩:=H8 (E0 W ⟨w5.heap.size,0,none⟩ (c8 (Dq ks)));have bG:Bk V w5.heap.size 23 (c8 (Dq ks)):=by rw[hV];exact Bk.put8 (n:=32) k9 (by simp) bJ
  have aV:Bk V (w.heap.size+2) 47 [.slice A n c,.slice A' m c']:=by rw[hV];exact aU.putFar (by have:=aF.lt;simp;omega) _
  have BV:Below w.heap.size w V:=by rw[hV];exact C5 BW z5 _
  rw[hW]at aG;go_wp2_with fail;rw[←hW,←hV];clear aG hW hV;have bM:=Lib.hid ((HK.out.below BV).more BV.size);have S1:=Eo V;refine Dm (fun W=>Bk W w5.heap.size 23 (c8 (Dq ks))∧Bk W (w.heap.size+2) 47 [.slice A n c,.slice A' m c']) ?_;refine Cf (A:=?bX) [0,1,2,3,4,5,6,7,8,9,10,11] ⟨bG.drew,aV.drew⟩ (fun W hW=>?bN) ?bY;case bN=>
   have f1:=hW.2.at_ (i:=0) (u:=.slice A n c) rfl;have f2:=Bk.row8 (n:=32) hW.1 bJ;exact Dd
  refine Wz [zv 12 48 (A8 (Dq ks)),zv 13 49 (.bool false),zv 14 50 (.bool false),zv 15 51 (.bool false),zv 16 35 (.bool false)] (by kernel_rfl) ?bO (fun W hW=>⟨bG.drew.bl hW,aV.drew.bl hW⟩) ?aW ?aX ?aY;case aW=>exact Jz
  case bO=>exact (N7 ⟨(fun o ho us=>by obtain rfl:=Option.some.inj ho;kernel_rfl),(N7 ⟨(fun o ho us=>by obtain rfl:=Option.some.inj ho;kernel_rfl),(N7 ⟨(fun o ho us=>by obtain rfl:=Option.some.inj ho;kernel_rfl),(N7 ⟨(fun o ho us=>by obtain rfl:=Option.some.inj ho;kernel_rfl),(N7 ⟨(fun o ho us=>by obtain rfl:=Option.some.inj ho;kernel_rfl),Ik⟩)⟩)⟩)⟩)⟩)
  case aX=>
   refine (N7 ⟨?aZ,(N7 ⟨?bA,(N7 ⟨?bB,(N7 ⟨?bC,(N7 ⟨?bD,Ik⟩)⟩)⟩)⟩)⟩);case aZ=>
    intro o ho us W hW hp Q' hQ';obtain rfl:=Option.some.inj ho;clear hp ho;rw[C8]at hQ' ⊢;dsimp only[F8,I2,List.foldl,zv]at hQ' ⊢;simp only[Bu];have bP:=Lib.hid ((bM.out.below (E8 S1 hW S1.size)).more (E8 S1 hW S1.size).size);go_wp2_with fail;refine (Qn _ ks W bP.out (by rw[←HN.out];exact hkn)).mono ?_;rintro e W2 ⟨rfl,b2⟩;go_wp2_with fail;exact Cm (hQ' _ _ b2 rfl nofun)
   case bA=>intro o ho us W hW hp Q' hQ';obtain rfl:=Option.some.inj ho;have aA:us 12=A8 (Dq ks):=hp 0 _ rfl (by kernel_rfl);clear hp ho;rw[C8]at hQ' ⊢;dsimp only[F8,I2,List.foldl,zv]at hQ' ⊢;simp only[Bu];rw[aA]at hQ' ⊢;clear aA;go_wp2_with fail;exact Cm (hQ' _ _ (Below.refl _ _) rfl nofun)
   case bB=>intro o ho us W hW hp Q' hQ';obtain rfl:=Option.some.inj ho;have aB:us 13=.bool false:=hp 1 _ rfl (by kernel_rfl);clear hp ho;rw[C8]at hQ' ⊢;dsimp only[F8,I2,List.foldl,zv]at hQ' ⊢;simp only[Bu];rw[aB]at hQ' ⊢;clear aB;go_wp2_with fail;exact Cm (hQ' _ _ (Below.refl _ _) rfl nofun)
   case bC=>intro o ho us W hW hp Q' hQ';obtain rfl:=Option.some.inj ho;have aC:us 14=.bool false:=hp 2 _ rfl (by kernel_rfl);clear hp ho;rw[C8]at hQ' ⊢;dsimp only[F8,I2,List.foldl,zv]at hQ' ⊢;simp only[Bu];rw[aC]at hQ' ⊢;clear aC;go_wp2_with fail;exact Cm (hQ' _ _ (Below.refl _ _) rfl nofun)
   case bD=>intro o ho us W hW hp Q' hQ';obtain rfl:=Option.some.inj ho;have aD:us 15=.bool false:=hp 3 _ rfl (by kernel_rfl);clear hp ho;rw[C8]at hQ' ⊢;dsimp only[F8,I2,List.foldl,zv]at hQ' ⊢;simp only[Bu];rw[aD]at hQ' ⊢;clear aD;go_wp2_with fail;exact Cm (hQ' _ _ (Below.refl _ _) rfl nofun)
  case aY=>
  intro us W2 b3 hg bH bQ;have aA:us 12=A8 (Dq ks):=hg _ (M6 0 rfl);have aB:us 13=.bool false:=hg _ (M6 1 rfl);have aC:us 14=.bool false:=hg _ (M6 2 rfl);have aD:us 15=.bool false:=hg _ (M6 3 rfl);have bE:us 16=.bool false:=hg _ (M6 4 rfl);have b4:=J5 S1 b3;rw[C8];dsimp only[I2,List.foldl,zv];simp only[Bu];rw[aA,aB,aC,aD,bE];clear hg bH bQ aA aB aC aD bE b3 S1;refine Cu ?_;go_wp2_with fail;go_ret;exact ⟨rfl,E8 BV b4 BV.size⟩
section
structure IsTree (t : Tr) (L : List En) : Prop where
 ok:Okt t
 prs:t.pairs=pairsE L
theorem IsTree.uniq {t s:Tr} {L:List En} (h:IsTree t L) (h':IsTree s L):t=s:=Ok.ext_mem h.ok h'.ok fun x=>by rw[h.prs,h'.prs]
theorem Ax.okE {w:World} {dv:Value} {e:Nat} {L:List En} {N:Nat} (h:Ax w dv e L N):OkE L:=by
 obtain⟨ap,mv,m,t,h1,h2,h3,h4,h5,h6,h7⟩:=h;exact h4
theorem Ax.tree {w:World} {dv:Value} {e:Nat} {L:List En} {N:Nat} (h:Ax w dv e L N):∃t,IsTree t L:=by
 obtain⟨ap,mv,m,t,h1,h2,h3,h4,h5,h6,h7⟩:=h;exact ⟨t,h5,h6⟩
theorem MVN.form2 {w:World} {mv:Value} {m:List UInt8→Option Value} {N:Nat} (h:MVN w mv m N):∃b,mv=.map b:=by
 rcases h.form with h | ⟨b,h⟩
 ·exact ⟨_,h⟩
 ·exact ⟨_,h⟩
theorem Ax.form {w:World} {dv:Value} {e:Nat} {L:List En} {N:Nat} (h:Ax w dv e L N):∃ap b,dv=.agg #[.int .i64 (e:Int),.pointer ap,.int .i64 0,.map b]:=by
 obtain⟨ap,mv,m,t,h1,h2,_⟩:=h;obtain⟨b,rfl⟩:=h2.form2;exact ⟨ap,b,h1⟩
section
variable {w : World} {dv : Value} {e N : Nat} {L : List En} {t : Tr}
theorem Uf (h:Ax w dv e L N):Calls Tryz.prog 19 #[dv] w fun x w'=>x=.returned (.int .i64 (e:Int))∧Below w.heap.size w w':=by
 obtain⟨ap,mv,m,s,rfl,_⟩:=h;exact A6e _ _ _ _ w
theorem Lh (h:Ax w dv e L N) (ht:IsTree t L):Calls Tryz.prog 17 #[dv] w fun x w'=>x=.returned (A8 t.root)∧Below w.heap.size w w':=by
 obtain⟨ap,mv,m,s,rfl,h2,h3,h4,h5,h6,h7⟩:=h;obtain rfl:=ht.uniq ⟨h5,h6⟩;exact B3j t _ _ _ _ w h7
theorem B8e (h:Ax w dv e L N) (id:List UInt8) (hid:id.length=32) (hks:(lookE L id).length≤1000000):Calls Tryz.prog 23 #[dv,A8 id] w fun x w'=>∃u,x=.returned u∧Gt w' w.heap.size u (lookE L id)∧Below w.heap.size w w':=by
 obtain⟨ap,mv,m,s,rfl,h2,h3,h4,h5,h6,h7⟩:=h;exact Zw _ ap 0 mv h2.form m (lookE L) id hid (by omega) w h2.mv h3
theorem A6f (h:Ax w dv e L N) (ht:IsTree t L) (id:List UInt8) (hid:id.length=32) (hks:(lookE L id).length≤1000000) (hL:L.length≤1000000):Calls Tryz.prog 11 #[dv,A8 id] w fun x w'=>∃u v,x=.returned (.agg #[u,v])∧Gt w' w.heap.size u (lookE L id)∧Q5 w' w.heap.size v (t.cut [id] 0).bytes∧Below w.heap.size w w':=by
 obtain⟨ap,mv,m,s,rfl,h2,h3,h4,h5,h6,h7⟩:=h;obtain rfl:=ht.uniq ⟨h5,h6⟩;have hl:t.len≤1000000:=by rw[Tr.len_pairs,h6,Ec];exact hL
 refine A2y _ ap mv h2.form m (lookE L) id hid (by omega) t P0 h5 (by omega) (C7n h5 _ _) ?_ w h2.mv h3 h7;have:=B1w h5 (by omega) [id] 0;have h8:t.len*(65+2*(257-0))≤1000000*579:=Nat.mul_le_mul hl (by omega);omega
theorem B3c (ht:IsTree t L) (ok:OkE L) (id:List UInt8) (hid:id.length=32) (hks:(lookE L id).length≤1000000) (kv pv:Value) (hk:Hs w 0 w.heap.size kv (lookE L id)) (hb:By w 0 w.heap.size pv (t.cut [id] 0).bytes) :
 Calls Tryz.prog 16 #[A8 t.root,A8 id,.agg #[kv,pv]] w fun x w'=>x=.returned (.int .i64 0)∧Below w.heap.size w w':=by
 have hv:=Yg t [id] 0;have aA:=hv.ok ht.ok;refine A7b t.root id t.root_length hid kv pv (lookE L id) _ (t.cut [id] 0) (A3d aA (hv.tight ht.ok)) aA.wf aA.dp hv.root ?_ hks w hk hb;rw[Xm hv (Te t [id] 0 (by simp)),A4u ht.ok ok ht.prs];rfl
end
end
theorem Ry {L:List En} (ok:OkE L) (q:En):q∈L↔q.2≠[]∧lookE L q.1=q.2:=by
 constructor
 ·intro h;exact ⟨fun e=>(by have:=ok.one q h;rw[e]at this;exact absurd this (by simp)),Gc ok.rise q h⟩
 ·rintro ⟨h1,h2⟩;by_cases h:∃p∈L,p.1=q.1
  ·obtain⟨p,hp,he⟩:=h;have h3:=Gc ok.rise p hp;rw[he,h2]at h3;have:p=q:=Prod.ext he h3.symm;rwa [this]at hp
  ·exfalso;apply h1;rw[←h2];exact Jg fun p hp he=>h ⟨p,hp,he⟩
theorem B3b {L L':List En} (ok:OkE L) (ok':OkE L') (h:∀x,lookE L x=lookE L' x) {t s:Tr} (ht:IsTree t L) (hs:IsTree s L'):t=s:=
 Ok.ext_mem ht.ok hs.ok fun x=>by
  rw[ht.prs,hs.prs];unfold pairsE;simp only[List.mem_map];constructor
  ·rintro ⟨q,h1,h2⟩;exact ⟨q,(Ry ok' q).2 (by rw[←h];exact (Ry ok q).1 h1),h2⟩
  ·rintro ⟨q,h1,h2⟩;exact ⟨q,(Ry ok q).2 (by rw[h];exact (Ry ok' q).1 h1),h2⟩
theorem B4j {id:List UInt8} (hid:id.length=32):∀L:List En,(∀q∈L,q.1.length=32∧q.1≠id)→(L.filter fun q=>Gb q.1 id).length+(L.filter fun q=>Gb id q.1).length=L.length
 | [],_=>rfl
 | q::L,h=>by
  have ih:=B4j hid L fun p hp=>h p (by simp[hp]);obtain⟨h1,h2⟩:=h q (by simp);rcases klt.total h1 hid h2 with h3 | h3
  ·have h4:Gb id q.1=false:=by
    cases h5:Gb id q.1 with
    | false=>rfl
    | true=>exact absurd rfl (klt.trans h3 (X4.1 h5)).ne
   rw[List.filter_cons,List.filter_cons,X4.2 h3,h4];simp only[if_true,Bool.false_eq_true,if_false,List.length_cons];omega
  ·have h4:Gb q.1 id=false:=by
    cases h5:Gb q.1 id with
    | false=>rfl
    | true=>exact absurd rfl (klt.trans h3 (X4.1 h5)).ne
   rw[List.filter_cons,List.filter_cons,X4.2 h3,h4];simp only[if_true,Bool.false_eq_true,if_false,List.length_cons];omega
theorem B2p {L:List En} {id key:List UInt8} (ok:OkE L) (hid:id.length=32) (hn:lookE L id=[]):(Em id key L).length=L.length+1:=by
 have:=B4j hid L fun q hq=>⟨ok.id q hq,fun e=>by
  have h1:=Gc ok.rise q hq;have h2:=ok.one q hq;rw[e,hn]at h1;rw[←h1]at h2;exact absurd h2 (by simp)⟩
 unfold Em;simp only[List.length_append,List.length_singleton];omega
theorem Zn:∀(us:List UV) (L:List En),OkE L→(∀u∈us,u.Ok)→us.Pairwise (fun u v=>u.id≠v.id)→(∀u∈us,Ii [] u=true)→(∀u∈us,lookE L u.id=[])→
 OkE (applyE us L)∧(applyE us L).length=L.length+us.length∧(∀u∈us,lookE (applyE us L) u.id=[u.key])∧∀x,(∀u∈us,u.id≠x)→lookE (applyE us L) x=lookE L x
 | [],L,ok,_,_,_,_=>⟨ok,rfl,fun u h=>(by cases h),fun x _=>rfl⟩
 | u::us,L,ok,huo,hp,hn,hl=>by
  rw[List.pairwise_cons]at hp;have hu:=huo u (by simp);have aA:=hl u (by simp);have e:applyE (u::us) L=applyE us (Em u.id u.key L):=by
   show applyE us (Ig L u)=_;unfold Ig;rw[aA,hn u (by simp),if_pos rfl]
  have aB:=ok.with hu.id hu.key;have hw:=fun x=>Gw ok hu.id hu.key x;rw[aA]at hw;obtain⟨h1,h2,h3,h4⟩:=Zn us (Em u.id u.key L) aB (fun v hv=>huo v (by simp[hv])) hp.2 (fun v hv=>hn v (by simp[hv])) (fun v hv=>by
   rw[hw,if_neg (hp.1 v hv).symm];exact hl v (by simp[hv]))
  rw[e];refine ⟨h1,?_,?_,?_⟩
  ·rw[h2,B2p ok hu.id aA,List.length_cons];omega
  ·intro v hv;rcases List.mem_cons.1 hv with rfl | hv
   ·rw[h4 _ fun x hx=>(hp.1 x hx).symm,hw,if_pos rfl];rfl
   ·exact h3 v hv
  ·intro x hx;rw[h4 x fun v hv=>hx v (by simp[hv]),hw,if_neg fun e=>hx u (by simp) e.symm]
noncomputable def uo (k:Nat):UV:=Og (Bp (UInt8.ofNat k) 3) 1 (h1 (UInt8.ofNat k))
theorem B7r (k:Nat):(uo k).Ok:=B6x _ _ (Ga _)
def evs:List Ev:=[eu0,eu1,eu2,eu3,eu4,eu5,eu6,eu7,eu8]
theorem B4k:∀k,k<9→∃e:Ev,evs[k]?=some e∧(uo k).id=e.B∧(uo k).ver=1∧U8 (uo k)=true:=by
 have H:∀ {k:Nat} {e:Ev} {b f:List UInt8},Og (Bp (UInt8.ofNat k) 3) 1 (h1 (UInt8.ofNat k))=⟨b,1,h1 (UInt8.ofNat k),f⟩∧U8 (Og (Bp (UInt8.ofNat k) 3) 1 (h1 (UInt8.ofNat k)))=true→evs[k]?=some e→b=e.B→∃e:Ev,evs[k]?=some e∧(uo k).id=e.B∧(uo k).ver=1∧U8 (uo k)=true:=by
  intro k e b f h he hb;subst hb;have h2:=h.1;have aB:(Og (Bp (UInt8.ofNat k) 3) 1 (h1 (UInt8.ofNat k))).id=e.B:=by rw[h2]
  have aA:(Og (Bp (UInt8.ofNat k) 3) 1 (h1 (UInt8.ofNat k))).ver=1:=by rw[h2]
  exact ⟨e,he,aB,aA,h.2⟩
 intro k hk;match k,hk with
 | 0,_=>exact H D9z rfl rfl
 | 1,_=>exact H E1q rfl rfl
 | 2,_=>exact H E0f rfl rfl
 | 3,_=>exact H E0v rfl rfl
 | 4,_=>exact H E0k rfl rfl
 | 5,_=>exact H E1b rfl rfl
 | 6,_=>exact H E0r rfl rfl
 | 7,_=>exact H E0l rfl rfl
 | 8,_=>exact H E2a rfl rfl
 | n+9,h=>exact absurd h (by omega)
theorem C6c:(evs.map Ev.B).Nodup:=by decide +kernel
theorem D6f {k j:Nat} (hk:k<9) (hj:j<9) (h:k≠j):(uo k).id≠(uo j).id:=by
 obtain⟨a,ha,ia,_⟩:=B4k k hk;obtain⟨b,hb,ib,_⟩:=B4k j hj;rw[ia,ib];intro e;have h1:(evs.map Ev.B)[k]?=some a.B:=by rw[List.getElem?_map,ha];rfl
 have h2:(evs.map Ev.B)[j]?=some b.B:=by rw[List.getElem?_map,hb];rfl
 rw[e]at h1;exact h ((List.getElem?_inj (by simpa [evs] using hk) C6c).1 (h1.trans h2.symm))
theorem C3d {k:Nat} (hk:k<9):Ii [] (uo k)=true:=by
 obtain⟨e,_,_,hv,hs⟩:=B4k k hk;unfold Ii;rw[hs,hv];rfl
attribute [irreducible] uo
structure Ow (ks : List Nat) : Prop where
 lt:∀k∈ks,k<9
 nd:ks.Nodup
theorem Ow.ids {ks:List Nat} (h:Ow ks):(ks.map uo).Pairwise fun u v=>u.id≠v.id:=by
 rw[List.pairwise_map];exact h.nd.imp_of_mem fun ha hb hne=>D6f (h.lt _ ha) (h.lt _ hb) hne
theorem Ow.apply {ks:List Nat} (h:Ow ks):OkE (applyE (ks.map uo) [])∧(applyE (ks.map uo) []).length=ks.length∧(∀k∈ks,lookE (applyE (ks.map uo) []) (uo k).id=[(uo k).key])∧∀x,(∀k∈ks,(uo k).id≠x)→lookE (applyE (ks.map uo) []) x=[]:=by
 obtain⟨h1,h2,h3,h4⟩:=Zn (ks.map uo) [] OkE.nil (fun u hu=>by obtain⟨k,_,rfl⟩:=List.mem_map.1 hu;exact B7r k) h.ids (fun u hu=>by obtain⟨k,hk,rfl⟩:=List.mem_map.1 hu;exact C3d (h.lt k hk)) (fun u hu=>rfl);refine ⟨h1,by simpa using h2,fun k hk=>h3 _ (List.mem_map_of_mem hk),fun x hx=>h4 x fun u hu=>?_⟩;obtain⟨k,hk,rfl⟩:=List.mem_map.1 hu;exact hx k hk
theorem Ow.same {ks js:List Nat} (h:Ow ks) (h':Ow js) (hm:∀k,k∈ks↔k∈js) (x:List UInt8):lookE (applyE (ks.map uo) []) x=lookE (applyE (js.map uo) []) x:=by
 obtain⟨_,_,h3,h4⟩:=h.apply;obtain⟨_,_,g3,g4⟩:=h'.apply;by_cases hx:∃k∈ks,(uo k).id=x
 ·obtain⟨k,hk,rfl⟩:=hx;rw[h3 k hk,g3 k ((hm k).1 hk)]
 ·rw[h4 x fun k hk e=>hx ⟨k,hk,e⟩,g4 x fun k hk e=>hx ⟨k,(hm k).2 hk,e⟩]
theorem Ow.rev {ks:List Nat} (h:Ow ks):Ow ks.reverse:=⟨fun k hk=>h.lt k (by simpa using hk),by simpa [List.Nodup,List.pairwise_reverse,ne_comm] using h.nd⟩
theorem Ow.snoc {ks:List Nat} (h:Ow ks) {k:Nat} (hk:k<9) (hn:k∉ks):Ow (ks++[k]):=by
 refine ⟨fun j hj=>?_,?_⟩
 ·rcases List.mem_append.1 hj with hj | hj
  ·exact h.lt j hj
  ·simp at hj;omega
 ·rw[List.nodup_append];exact ⟨h.nd,by simp,fun a ha b hb=>by simp at hb;subst hb;exact fun e=>hn (e▸ha)⟩
theorem A3k (us:List UV) (n:Nat):applyE (us.drop n) (applyE (us.take n) [])=applyE us []:=by
 unfold applyE;rw[←List.foldl_append,List.take_append_drop]
section
def ki (k:Nat):Lit:=.int .i64 (k:Int)
theorem B8z:∀ {k:Nat},k<9→keyOf Tryz.prog 3 (.int .i64 (k:Int))=some (ki k)
 | 0,_=>(by kernel_rfl)
 | 1,_=>(by kernel_rfl)
 | 2,_=>(by kernel_rfl)
 | 3,_=>(by kernel_rfl)
 | 4,_=>(by kernel_rfl)
 | 5,_=>(by kernel_rfl)
 | 6,_=>(by kernel_rfl)
 | 7,_=>(by kernel_rfl)
 | 8,_=>(by kernel_rfl)
 | n+9,h=>absurd h (by omega)
theorem D2j {k j:Nat} (h:k≠j):ki k≠ki j:=fun e=>h (by
 unfold ki at e;injection e with _ e;omega)
theorem C8h {k:Nat} (h:k<9):WideAt.IsKeyLit (ki k):=Qm.key (B8z h)
def MapS (w:World) (b n:Nat) (ks:List Nat):Prop:=∃D:DataW Value,w.ownsMap Tryz.prog 3 RI b n D∧∀k,k<9→∀z,D.atKey (ki k) z=if k∈ks then .held (.int .i64 1) else z
theorem MapS.mc {w:World} {b n:Nat} {ks:List Nat} (h:MapS w b n ks):C5n w b n:=by
 obtain⟨D,hD,_⟩:=h;exact ⟨D,hD⟩
theorem MapS.made (w:World):MapS (w.alloc (.map #[] 0)) w.heap.size 0 []:=⟨.map [],World.ownsMap_made _ _ _ _,fun k hk z=>(by rw[if_neg (by simp)];rfl)⟩
theorem MapS.kept {w w':World} {b n:Nat} {ks:List Nat} {row:Option Nat} (h:MapS w b n ks) (hg:w.grownBy w' row) (hne:some b≠row):MapS w' b n ks:=by
 obtain⟨D,hD,h1⟩:=h;exact ⟨D,hD.kept hg hne,h1⟩
theorem MapS.below {w w':World} {b n:Nat} {ks:List Nat} (h:MapS w b n ks) (hb:Below w.heap.size w w'):MapS w' b n ks:=
 h.kept (row:=none) ⟨hb.os,hb.tape,hb.output,hb.size,fun k hk _=>hb.block k (by omega)⟩ (by simp)
theorem MapS.own {w w':World} {b n base sz k:Nat} {T:TypeId} {v:Value} {xs:List Value} {ks:List Nat} (h:MapS w b n ks) (ho:w.ownsRow base T sz v k xs) (hg:w.grownBy w' v.ownBlock):MapS w' b n ks:=by
 refine h.kept hg fun e=>?_;rcases A9k ho h.mc.row with h1 | h1
 ·rw[h1]at e;cases e
 ·exact h1 e.symm
theorem MapS.put {w:World} {b n:Nat} {ks:List Nat} (h:MapS w b n ks) {k:Nat} (hk:k<9) :
 ∃D:DataW Value,w.ownsMap Tryz.prog 3 RI b n D∧∀w',w'.ownsMap Tryz.prog 3 RI b (n+1) (D.put (ki k) (.held (.int .i64 1)))→MapS w' b (n+1) (ks++[k]):=by
 obtain⟨D,hD,hl⟩:=h;refine ⟨D,hD,fun w' h'=>⟨_,h',fun j hj z=>?_⟩⟩;by_cases e:j=k
 ·subst e;rw[if_pos (by simp)];exact Maps.atKey_put_same hD.isMap (C8h hk) _ _
 ·rw[Maps.atKey_put_other (D2j e) _ _,hl j hj z];by_cases h2:j∈ks
  ·rw[if_pos h2,if_pos (by simp[h2])]
  ·rw[if_neg h2,if_neg (by simp[h2,e])]
theorem B6e (w:World):(zeroValue 3).run Tryz.prog w=.ok (.int .i64 0) w:=by kernel_rfl
theorem MapS.look {w:World} {b n:Nat} {ks:List Nat} (h:MapS w b n ks) {k:Nat} (hk:k<9) :
 (Instr.lookup 59 (.map (some b)) (.int .i64 (k:Int)) false).run Tryz.prog w=.ok (.int .i64 (if k∈ks then 1 else 0)) w:=by
 obtain⟨D,⟨es,aA,hb,F,_,rfl⟩,hl⟩:=h;have h3:=hl k hk .nil;rcases Maps.fit_look false Qm Tryz.underlying59 (B6e w) hb F (B8z hk) with ⟨hrun,_,hat⟩ | ⟨e0,y,_,_,hrun,hRv,hat,_⟩
 ·by_cases hm:k∈ks
  ·rw[hat,if_pos hm]at h3;cases h3
  ·rw[if_neg hm];exact hrun
 ·obtain⟨x,hx⟩:=C6m hRv;have hy:y.1=.held e0.val:=by rw[hx]at hRv ⊢;have:some (DataW.held (Value.int .i64 x),([]:List MemPlace))=some y:=hRv;injection this with this;rw[←this]
  by_cases hm:k∈ks
  ·rw[hat,hy,if_pos hm]at h3;injection h3 with h3;rw[if_pos hm,←h3];exact hrun
  ·rw[hat,hy,if_neg hm]at h3;cases h3
structure OrI (w wr : World) (b m : Nat) (ks : List Nat) (lv : Value) : Prop where
 lo:OwnU wr w.heap.size lv (ks.map uo)
 mc:MapS wr b m ks
 ow:Ow ks
 hb:w.heap.size≤b
 below:Below w.heap.size w wr
section
variable {w wr w' : World} {b m : Nat} {ks : List Nat} {lv : Value}
theorem OrI.map (h:OrI w wr b m ks lv) {k:Nat} (hk:k<9) (hn:k∉ks) (hg:wr.grownBy w' (some b)) (hm:MapS w' b (m+1) (ks++[k])) :
 OwnU w' w.heap.size lv (ks.map uo)∧MapS w' b (m+1) (ks++[k])∧Below w.heap.size w w':=
 ⟨⟨h.lo.1,World.ownsRow.kept h.lo.2 hg (A9k h.lo.2 h.mc.mc.row)⟩,hm,h.below.grown hg h.below.size (fun k e=>by cases e;exact h.hb)⟩
end
def Ns (w:World) (B:Nat) (v:Value) (l:List Int):Prop:=∃A c,v=.slice A l.length c∧l.length≤c∧c≤9223372036854775807∧Rd w 0 B A (l.map (Value.int .i64))
theorem Ns.at_ {w:World} {B:Nat} {A:Option Addr} {n c:Nat} {l:List Int} (h:Ns w B (.slice A n c) l) {i:Nat} {a:Int} (ha:l[i]?=some a):∃g o,A=some ⟨g,o,none⟩∧g<B∧w.cell? ⟨g,o+i,none⟩=some (.int .i64 a):=by
 obtain⟨A',c',h1,h2,h3,h4⟩:=h;injection h1 with h1;subst h1;have hi:i<l.length:=(List.getElem?_eq_some_iff.1 ha).1;rcases h4 with h4 | ⟨g,o,h5,h6,h7,h8⟩
 ·have:(l.map (Value.int .i64)).length=0:=by rw[h4];rfl
  rw[List.length_map]at this;omega
 ·exact ⟨g,o,h5,h7,h8 _ _ (by rw[List.getElem?_map,ha];rfl)⟩
def B3f (o:Int):Nat:=(Ib o % 9).toNat
theorem C2z (o:Int):B3f o<9:=by
 unfold B3f;rw[UInt64.toNat_mod];exact Nat.mod_lt _ (by decide)
theorem B4q (o:Int):J0 (Ib o % 9)=((B3f o:Nat):Int):=rfl
theorem B2w (o:Int):(J0 (Ib o)).tmod 9=((B3f o:Nat):Int):=by unfold B3f J0;rw[UInt64.toNat_mod];rfl
end
section
open Go.ChangeAt Go.ChangeShapes Go.WideShapes
section
variable {H : Type} {enc : TypeId × Value → H} {P : Program} {w : World} {base : Nat} {spare : Nat → Bool} {held : Bool}
theorem B2v {t e:TypeId} (ht:P.underlying t=some (.slice e)) (he:P.underlying e=some (.int .i64)) (hc:P.cellsOf e=1) {fuel:Nat} {cs:List Value} {x:DataW H×List MemPlace}
 (h:DataW.trod enc P w base spare held fuel t cs=some x):∃v l,cs=[v]∧Ns w w.heap.size v l:=by
 rcases open_ints ht he hc h with ⟨hcs,_⟩ | ⟨a,len,cap,zs,hcs,_,hl,hm,hz,hx,hcell,hwz⟩
 ·exact ⟨_,[],hcs,none,0,rfl,Nat.le_refl _,by decide,.inl rfl⟩
 ·have aF:len≤zs.length:=by rw[hz];split<;>omega
  have aB:(zs.take len).length=len:=by simp;omega
  refine ⟨_,zs.take len,hcs,some a,cap,by rw[aB],by omega,hm,?_⟩;rcases Nat.eq_zero_or_pos len with h0 | h0
  ·subst h0;exact .inl rfl
  ·have aC:=hcell 0 (by omega);have hs:a.spot=none:=World.cell?_spot (by simpa [Addr.add] using aC);have aA:a.block<w.heap.size:=block_lt_of_cell (by simpa [Addr.add] using aC);obtain⟨g,o,s⟩:=a;simp only at hs aA;subst hs;refine .inr ⟨g,o,rfl,Nat.zero_le _,aA,fun j u hj=>?_⟩;have aE:j<len:=by have:=(List.getElem?_eq_some_iff.1 hj).1;simp at this;omega
   rw[List.getElem?_map,List.getElem?_take,if_pos aE,List.getElem?_eq_getElem (by omega)]at hj;simp only[Option.map_some,Option.some.injEq]at hj;have aD:=hcell j (by omega);rw[Bq]at aD;rw[aD,←hj];simp only[List.getD_eq_getElem?_getD,List.getElem?_eq_getElem (show j<zs.length by omega),Option.getD_some]
end
theorem nums_open {H:Type} {enc:TypeId×Value→H} {w:World} {base:Nat} {spare:Nat→Bool} {held:Bool} {r:Reach} {b0:Nat} {v:Value} {d:DataW H} {ps:List MemPlace} (hval:Value.okWide Tryz.prog w r b0 58 v)
 (h:DataW.Trod enc Tryz.prog w base spare held 58 v d ps):∃l,Ns w w.heap.size v l:=by
 obtain⟨aC,hf⟩:=h;obtain⟨v',l,hv,hp⟩:=B2v Tryz.underlying58 Tryz.underlying3 (by kernel_rfl) hf;have aD:v=v':=by
  obtain⟨a0,aA,aB,e0⟩:=okWide_slice Tryz.underlying58 hval;rw[e0]at hv ⊢;have h1:[Value.slice a0 aA aB]=[v']:=hv;exact (List.cons.inj h1).1
 exact ⟨l,aD▸hp⟩
end
end Go.Proofs.YtlegpkdighoflaaGreat
