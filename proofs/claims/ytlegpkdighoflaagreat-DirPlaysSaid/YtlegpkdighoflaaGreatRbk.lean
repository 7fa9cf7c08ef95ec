/- A part of the proof of DirPlays. -/
import Derived.Test.YtlegpkdighoflaaGreatRbj
import Derived.Test.YtlegpkdighoflaaGreatRbg
set_option linter.unusedVariables false
set_option linter.unusedSimpArgs false
set_option maxRecDepth 100000
set_option maxHeartbeats 40000000
namespace Go.Proofs.YtlegpkdighoflaaGreat
open Go Go.RowKit Sh
def Te (l:List UInt8):Except Nat Pt:=match rd 256 [] l with
 | .error n=>.error n
 | .ok (p,[])=>.ok p
 | .ok (_,_::_)=>.error 11
def Qx (r:Except Nat Pt) (q:Pt) (n:Int):Prop:=match r with | .ok p=>q=p∧n=0 | .error m=>q=.e∧n=(m:Int)
theorem C3m (i:Nat):M5 (z8 32) i=false:=by
 rw[Fg];have:g8 (z8 32) (i / 8)=0:=by
  unfold g8 z8;rw[List.getD_eq_getElem?_getD,List.getElem?_replicate];split<;>rfl
 rw[this];simp
theorem C4x (v:Value) (l:List UInt8) (w:World) (hv:By w 0 w.heap.size v l) :
 Calls Tryz.prog 38 #[v] w fun e w'=>∃(q:Pt) (n:Int),e=.returned (.tuple #[.agg #[q.val],.int .i64 n])∧Qx (Te l) q n∧Below w.heap.size w w':=by
 obtain⟨W0,aB⟩:=E9 ((w.alloc (Obj.cells #[.nilIface] 91)).alloc (Obj.cells #[v,.int .i64 0] 124));have B0:Below w.heap.size w W0:=by rw[aB];exact (Bh _ _).alloc (by simp) _
 have R0:Bk W0 w.heap.size 91 [.nilIface]:=by rw[aB];exact (Bk.new w _ [_]).alloc _
 have K0:Bk W0 (w.heap.size+1) 124 [v,.int .i64 0]:=by rw[aB];simpa using Bk.new (w.alloc (Obj.cells #[.nilIface] 91)) 124 [v,.int .i64 0]
 have r0:Ny W0 (w.heap.size+1) l 0:=⟨v,K0,(hv.below B0).more (by omega)⟩;have hn:=D2g (w.heap.size+1) 256 [] (z8 32) (by simp) (fun i hi=>by rw[C3m];rfl) rfl l W0 r0;obtain⟨A,c,aF,aJ,aK,_⟩:=hv.open_;subst aF;go_enter Tryz.func38,Tryz.ntmps38;go_wp2_with fail;rw[←aB];clear aB;refine hn.mono ?_;rintro e w1 ⟨g1,hN⟩;obtain⟨q,l1,aA,rfl,hw,r1,hc⟩:=Nc (way:=[]) rfl hN;clear hn hN r0 K0;have R1:=R0.grown (w':=w1) (row:=some (w.heap.size+1)) g1 (fun e=>by injection e with e;omega);have B1:=B0.grown g1 B0.size (fun k hk=>by injection hk with hk;omega);have HC:=Lib.hid hc;have aL:0≤aA:=by rcases hc with ⟨rfl,_⟩ | ⟨_,n,_,rfl⟩<;>omega
 clear hc g1;obtain⟨u,K1,hu⟩:=r1;obtain⟨A1,aD,rfl,aG,aH,_⟩:=hu.open_;have d0:=K1.at_ (i:=0) rfl;have d1:=K1.at_ (i:=1) rfl;have f1:=K1.frozen 1;have p0:=R1.at_ (i:=0) rfl;have pf:=R1.frozen 0;by_cases hb:aA=0
 ·subst hb;by_cases hl:l1=[]
  ·subst hl;have aC:Qx (Te l) q 0:=by
    rcases HC.out with ⟨_,hr⟩ | ⟨h,_⟩
    ·unfold Qx Te;rw[hr];exact ⟨rfl,rfl⟩
    ·exact absurd rfl h
   rcases q.form with hq | ⟨tq,xq,hq⟩
   ·rw[hq];go_wp2_with fail;exact bodyPost_ret (Y7 rfl (N7.row (R1.set_ 0 .nilIface) rfl _ Tryz.underlying91 rfl (by kernel_rfl)) (N7.tmp rfl)) rfl ⟨q,0,by rw[hq];rfl,aC,B1.setCell (by simp) _⟩
   ·rw[hq];go_wp2_with fail;exact bodyPost_ret (Y7 rfl (N7.row (R1.set_ 0 (.iface tq xq)) rfl _ Tryz.underlying91 rfl (by kernel_rfl)) (N7.tmp rfl)) rfl ⟨q,0,by rw[hq];rfl,aC,B1.setCell (by simp) _⟩
  ·have aM:=List.length_pos_iff.2 hl;have aN:decide ((l1.length:Int) > 0)=true:=decide_eq_true (by omega);have K2:=K1.set_ 1 (.int .i64 11);have R2:=R1.far (p:=⟨w.heap.size+1,1,none⟩) (by simp) (.int .i64 11);have B2:Below w.heap.size w (w1.setCell ⟨w.heap.size+1,1,none⟩ (.int .i64 11)):=B1.setCell (show w.heap.size≤w.heap.size+1 by omega) _;obtain⟨W2,aE⟩:=E9 (w1.setCell ⟨w.heap.size+1,1,none⟩ (.int .i64 11));have e1:=K2.at_ (i:=1) rfl;rw[←aE]at K2 R2 B2;go_wp2_with fail;rw[←aE];clear aE e1 d0 d1 f1 p0 pf K1 R1 B1;have p1:W2.drew.cell? ⟨w.heap.size,0,none⟩=some .nilIface:=R2.at_ rfl;have pf1:=R2.frozen 0;have S0:Bk W2.drew (w.heap.size+1) 124 [.slice A1 l1.length aD,.int .i64 11]∧Bk W2.drew w.heap.size 91 [.nilIface]:=⟨K2.drew,R2.drew⟩;refine Jh (fun W=>Bk W (w.heap.size+1) 124 [.slice A1 l1.length aD,.int .i64 11]∧Bk W w.heap.size 91 [.nilIface]) ?_;refine Fs (A:=?A2) [0,1,2,3,4] S0 (fun W hW=>?h2) ?r2;case h2=>have d1:=hW.1.at_ (i:=1) rfl;exact Gq
   case r2=>
    refine Ci 5 fun Q' hQ'=>?_;dsimp only[C7];go_wp2_with fail;refine hQ' _ _ ⟨S0.1.far (by simp) _,S0.2.set_ 0 .nilIface⟩ ?_;clear hQ';refine Ci 6 fun Q' hQ'=>?_;dsimp only[C7];go_wp2_with fail;refine hQ' _ _ ⟨S0.1.far (by simp) _,S0.2.set_ 0 .nilIface⟩ ?_;clear hQ';refine It ?_;go_wp2_with fail;refine bodyPost_ret (Y7 rfl (N7.row (S0.2.set_ 0 .nilIface) rfl _ Tryz.underlying91 rfl (by kernel_rfl)) (N7.tmp rfl)) rfl ⟨.e,11,rfl,?_,B2.drew.setCell (by simp) _⟩;rcases HC.out with ⟨_,hr⟩ | ⟨h,_⟩
    ·unfold Qx Te;rw[hr];cases l1 with
     | nil=>exact absurd rfl hl
     | cons x r=>exact ⟨rfl,rfl⟩
    ·exact absurd rfl h
 ·have aO:=beq_eq_false_iff_ne.2 hb;have aI:(aA != 0)=true:=by simp[hb]
  go_wp2_with fail;have S0:Bk w1.drew (w.heap.size+1) 124 [.slice A1 l1.length aD,.int .i64 aA]∧Bk w1.drew w.heap.size 91 [.nilIface]:=⟨K1.drew,R1.drew⟩;have p1:w1.drew.cell? ⟨w.heap.size,0,none⟩=some .nilIface:=p0;have pf1:w1.drew.frozen? ⟨w.heap.size,0,none⟩=false:=pf;refine Jh (fun W=>Bk W (w.heap.size+1) 124 [.slice A1 l1.length aD,.int .i64 aA]∧Bk W w.heap.size 91 [.nilIface]) ?_;refine Fs (A:=?A1) [0,1,2,3,4] S0 (fun W hW=>?h1) ?r1;case h1=>
   have d1:=hW.1.at_ (i:=1) rfl;exact Gq
  case r1=>
   refine Ci 5 fun Q' hQ'=>?_;dsimp only[C7];go_wp2_with fail;refine hQ' _ _ ⟨S0.1.far (by simp) _,S0.2.set_ 0 .nilIface⟩ ?_;clear hQ';refine Ci 6 fun Q' hQ'=>?_;dsimp only[C7];go_wp2_with fail;refine hQ' _ _ ⟨S0.1.far (by simp) _,S0.2.set_ 0 .nilIface⟩ ?_;clear hQ';refine It ?_;go_wp2_with fail;refine bodyPost_ret (Y7 rfl (N7.row (S0.2.set_ 0 .nilIface) rfl _ Tryz.underlying91 rfl (by kernel_rfl)) (N7.tmp rfl)) rfl ⟨.e,aA,rfl,?_,B1.drew.setCell (by simp) _⟩;rcases HC.out with ⟨h,_⟩ | ⟨_,n,hr,hbn⟩
   ·exact absurd h hb
   ·unfold Qx Te;rw[hr];exact ⟨rfl,hbn⟩
theorem B5b {p:Pt} {P:Nat→Bool} (ok:p.Ok 0 P) (ht:p.Tight):Te p.bytes=.ok p:=by
 have h:=B1w 256 [] p [] rfl (ok.congr fun i hi=>by simp at hi) ht;rw[List.append_nil]at h;unfold Te;rw[h]
def E2b (ks:List (List UInt8)):Option (List UInt8):=if ks.length=0 then none else some (Dd ks)
theorem C0a (root id:List UInt8) (hr:root.length=32) (hid:id.length=32) (kv pv:Value) (ks:List (List UInt8)) (l:List UInt8) (p:Pt) (hp:Te l=.ok p) (hw:p.Wf) (hd:p.Dp 0) (hroot:p.root=root) (hget:p.get id 0=Wu (E2b ks)) (hkn:ks.length≤1000000) (w:World) (hk:Hs w 0 w.heap.size kv ks) (hb:By w 0 w.heap.size pv l) :
 Calls Tryz.prog 16 #[A8 root,A8 id,.agg #[kv,pv]] w fun e w'=>e=.returned (.int .i64 0)∧Below w.heap.size w w':=by
 subst hroot;have HK:=Lib.hid hk;have HB:=Lib.hid hb;have HP:=Lib.hid hp;have HG:=Lib.hid hget;obtain⟨A,c,rfl,bR,bS⟩:=hk.form;obtain⟨A',c',rfl,_⟩:=hb.open_;obtain⟨n,hn⟩:=E9 (ks.length);obtain⟨m,hm⟩:=E9 (l.length);rw[←hn]at HK hkn ⊢;rw[←hm]at HB ⊢;have HN:=Lib.hid hn;clear hk hb hp hget hn hm;obtain⟨w0,bF⟩:=E9 (((w.alloc (Obj.cells (c8 p.root).toArray 23)).alloc (Obj.cells (c8 id).toArray 23)).alloc (Obj.cells #[.slice A n c,.slice A' m c'] 47));have hL:w0=O8 w [(23,c8 p.root),(23,c8 id),(47,[.slice A n c,.slice A' m c'])]:=bF;have B0:=Rf hL;have k3:=Um hL rfl;have k4:=Nm 1 hL rfl;have k5:=Nm 2 hL rfl;clear hL;have c1:=k5.at_ (i:=1) (u:=.slice A' m c') rfl;rw[bF]at c1;go_enter Tryz.func16,Tryz.ntmps16;go_wp2_with fail;rw[←bF];clear c1 bF;refine (C4x _ l w0 ((HB.out.below B0).more B0.size)).mono ?_;rintro e w1 ⟨q,n1,rfl,aK,b1⟩;rw[HP.out]at aK;obtain⟨rfl,rfl⟩:q=p∧n1=0:=aK;have B1:=Q5 B0 b1;have aL:=k3.bl b1;have aM:=k4.bl b1;have aN:=k5.bl b1;clear k3 k4 k5;go_wp2_with fail;obtain⟨w2,aH⟩:=E9 (w1.alloc (Obj.cells #[q.val] 91));rw[←aH];have kp:Bk w2 w1.heap.size 91 [q.val]:=by rw[aH];exact Bk.new w1 _ [_]
 have aI:=Ed aH aL;have aO:=Ed aH aM;have aP:=Ed aH aN;have B2:=Uo aH B1;generalize w1.heap.size=gp at *;clear aH B1 b1 aL aM aN B0;refine Jh (fun W=>Bk W gp 91 [q.val]∧Bk W w.heap.size 23 (c8 q.root)) ?_;refine Fs (A:=?bT) [0,2] ⟨kp.drew,aI.drew⟩ (fun W hW=>?bK) ?bU;case bK=>have f1:W.cell? ⟨gp,0,none⟩=some q.val:=hW.1.at_ (i:=0) rfl;have f2:=Bk.row8 (n:=32) hW.2 hr;exact Gq
 have S0:=Kg w2;have aQ:=aO.drew;have aR:=aP.drew;have B3:=Q5 B2 S0;refine Ci 1 fun Q' hQ'=>?_;dsimp only[C7];have bI:=Lib.hid hQ';clear hQ';go_wp2_with fail;refine (B7b q hw w2.drew).mono ?_;rintro e w4 ⟨rfl,b4⟩;have aJ:=aI.drew.bl b4;have aE:=kp.drew.bl b4;have aS:=aQ.bl b4;have aT:=aR.bl b4;have B4:=Q5 B3 b4;go_wp2_with fail;refine bI.out _ _ ⟨aE,aJ⟩ ?_;clear bI;refine Ci 3 fun Q' hQ'=>?_;dsimp only[C7];go_wp2_with fail;refine hQ' _ _ ⟨aE,aJ⟩ ?_;clear hQ';refine It ?_;have f1:w4.cell? ⟨gp,0,none⟩=some q.val:=aE.at_ (i:=0) rfl;have f2:=Bk.row8 (n:=32) aS hid;go_wp2_with fail;refine (D0i id hid q hw hd w4).mono ?_;rintro e w5 ⟨rfl,b5⟩;have aF:=aT.bl b5;have B5:=Q5 B4 b5;have d0:=aF.at_ (i:=0) (u:=.slice A n c) rfl;rw[HG.out];clear f1 f2 aJ aS aT aE aI aO aP kp aQ aR;obtain⟨W,hW⟩:=E9 (w5.alloc (Obj.cells (c8 (z8 32)).toArray 23));have k9:=KN' hW;have aU:=Ed hW aF;have BW:=Uo hW B5;have z5:w.heap.size≤w5.heap.size:=B5.size;have zW:w5.heap.size<W.heap.size:=by rw[hW];simp
 have aG:=Bk.can8 (n:=32) k9 (by simp);by_cases h0:n=0
 ·subst h0;have ht:E2b ks=none:=if_pos HN.out.symm;rw[ht];dsimp only[C8e,Wu];obtain⟨V,hV⟩:=E9 (C4 W ⟨w5.heap.size,0,none⟩ (c8 (z8 32)));have bG:Bk V w5.heap.size 23 (c8 (z8 32)):=by rw[hV];exact Bk.put8 (n:=32) k9 (by simp) (by simp)
  have aV:Bk V (w.heap.size+2) 47 [.slice A 0 c,.slice A' m c']:=by rw[hV];exact aU.putFar (by have:=aF.lt;simp;omega) _
  have BV:Below w.heap.size w V:=by rw[hV];exact C0 BW z5 _
  have e0:=aV.drew.at_ (i:=0) (u:=.slice A 0 c) rfl;have bV:=aV.at_ (i:=0) (u:=.slice A 0 c) rfl;rw[hW]at aG;go_wp2_with fail;rw[←hW,←hV];clear aG hW hV;go_quiet (fail);go_wp2_with fail;go_ret;exact ⟨rfl,K9 BV _⟩
 ·have ht:E2b ks=some (Dd ks):=if_neg (by rw[←HN.out];exact h0);rw[ht];dsimp only[C8e,Wu];have bJ:=Gh ks;have bL:decide (0<n)=true:=decide_eq_true (by omega);obtain⟨V,hV⟩:=E9 (C4 W ⟨w5.heap.size,0,none⟩ (c8 (Dd ks)));have bG:Bk V w5.heap.size 23 (c8 (Dd ks)):=by rw[hV];exact Bk.put8 (n:=32) k9 (by simp) bJ
  have aV:Bk V (w.heap.size+2) 47 [.slice A n c,.slice A' m c']:=by rw[hV];exact aU.putFar (by have:=aF.lt;simp;omega) _
  have BV:Below w.heap.size w V:=by rw[hV];exact C0 BW z5 _
  rw[hW]at aG;go_wp2_with fail;rw[←hW,←hV];clear aG hW hV;have bM:=Lib.hid ((HK.out.below BV).more BV.size);have S1:=Kg V;refine Jh (fun W=>Bk W w5.heap.size 23 (c8 (Dd ks))∧Bk W (w.heap.size+2) 47 [.slice A n c,.slice A' m c']) ?_;refine Fs (A:=?bX) [0,1,2,3,4,5,6,7,8,9,10,11] ⟨bG.drew,aV.drew⟩ (fun W hW=>?bN) ?bY;case bN=>
   have f1:=hW.2.at_ (i:=0) (u:=.slice A n c) rfl;have f2:=Bk.row8 (n:=32) hW.1 bJ;exact Gq
  refine A5f [zv 12 48 (A8 (Dd ks)),zv 13 49 (.bool false),zv 14 50 (.bool false),zv 15 51 (.bool false),zv 16 35 (.bool false)] (by kernel_rfl) ?bO (fun W hW=>⟨bG.drew.bl hW,aV.drew.bl hW⟩) ?aW ?aX ?aY;case aW=>exact MO'
  case bO=>exact (Z3 ⟨(fun o ho us=>by obtain rfl:=Option.some.inj ho;kernel_rfl),(Z3 ⟨(fun o ho us=>by obtain rfl:=Option.some.inj ho;kernel_rfl),(Z3 ⟨(fun o ho us=>by obtain rfl:=Option.some.inj ho;kernel_rfl),(Z3 ⟨(fun o ho us=>by obtain rfl:=Option.some.inj ho;kernel_rfl),(Z3 ⟨(fun o ho us=>by obtain rfl:=Option.some.inj ho;kernel_rfl),Zh⟩)⟩)⟩)⟩)⟩)
  case aX=>
   refine (Z3 ⟨?aZ,(Z3 ⟨?bA,(Z3 ⟨?bB,(Z3 ⟨?bC,(Z3 ⟨?bD,Zh⟩)⟩)⟩)⟩)⟩);case aZ=>
    intro o ho us W hW hp Q' hQ';obtain rfl:=Option.some.inj ho;clear hp ho;rw[C1]at hQ' ⊢;dsimp only[C7,E5,List.foldl,zv]at hQ' ⊢;simp only[Cy];have bP:=Lib.hid ((bM.out.below (C2 S1 hW S1.size)).more (C2 S1 hW S1.size).size);go_wp2_with fail;refine (Vh _ ks W bP.out (by rw[←HN.out];exact hkn)).mono ?_;rintro e W2 ⟨rfl,b2⟩;go_wp2_with fail;exact Ea (hQ' _ _ b2 rfl nofun)
   case bA=>intro o ho us W hW hp Q' hQ';obtain rfl:=Option.some.inj ho;have aA:us 12=A8 (Dd ks):=hp 0 _ rfl (by kernel_rfl);clear hp ho;rw[C1]at hQ' ⊢;dsimp only[C7,E5,List.foldl,zv]at hQ' ⊢;simp only[Cy];rw[aA]at hQ' ⊢;clear aA;go_wp2_with fail;exact Ea (hQ' _ _ (Below.refl _ _) rfl nofun)
   case bB=>intro o ho us W hW hp Q' hQ';obtain rfl:=Option.some.inj ho;have aB:us 13=.bool false:=hp 1 _ rfl (by kernel_rfl);clear hp ho;rw[C1]at hQ' ⊢;dsimp only[C7,E5,List.foldl,zv]at hQ' ⊢;simp only[Cy];rw[aB]at hQ' ⊢;clear aB;go_wp2_with fail;exact Ea (hQ' _ _ (Below.refl _ _) rfl nofun)
   case bC=>intro o ho us W hW hp Q' hQ';obtain rfl:=Option.some.inj ho;have aC:us 14=.bool false:=hp 2 _ rfl (by kernel_rfl);clear hp ho;rw[C1]at hQ' ⊢;dsimp only[C7,E5,List.foldl,zv]at hQ' ⊢;simp only[Cy];rw[aC]at hQ' ⊢;clear aC;go_wp2_with fail;exact Ea (hQ' _ _ (Below.refl _ _) rfl nofun)
   case bD=>intro o ho us W hW hp Q' hQ';obtain rfl:=Option.some.inj ho;have aD:us 15=.bool false:=hp 3 _ rfl (by kernel_rfl);clear hp ho;rw[C1]at hQ' ⊢;dsimp only[C7,E5,List.foldl,zv]at hQ' ⊢;simp only[Cy];rw[aD]at hQ' ⊢;clear aD;go_wp2_with fail;exact Ea (hQ' _ _ (Below.refl _ _) rfl nofun)
  case aY=>
  intro us W2 b3 hg bH bQ;have aA:us 12=A8 (Dd ks):=hg _ (Ca 0 rfl);have aB:us 13=.bool false:=hg _ (Ca 1 rfl);have aC:us 14=.bool false:=hg _ (Ca 2 rfl);have aD:us 15=.bool false:=hg _ (Ca 3 rfl);have bE:us 16=.bool false:=hg _ (Ca 4 rfl);have b4:=Q5 S1 b3;rw[C1];dsimp only[E5,List.foldl,zv];simp only[Cy];rw[aA,aB,aC,aD,bE];clear hg bH bQ aA aB aC aD bE b3 S1;refine It ?_;go_wp2_with fail;go_ret;exact ⟨rfl,C2 BV b4 BV.size⟩
end Go.Proofs.YtlegpkdighoflaaGreat
