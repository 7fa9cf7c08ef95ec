/- A part of the proof of AuditBatch. -/
import Derived.Test.YtdfpoofbgjilgaaGreatUbj
set_option linter.unusedVariables false
set_option linter.unusedSimpArgs false
set_option maxRecDepth 100000
set_option maxHeartbeats 40000000
namespace Go.Proofs.YtdfpoofbgjilgaaGreat
open Go Go.RowKit Sh
def A8t (a:Act) (idx:List Nat) (f:Nat→Value):Act:=⟨(idx.foldl (fun l i=>l.set i (f i)) a.tmps.toList).toArray,a.defers⟩
def D1i (a:Act) (i:Nat):Value:=a.tmps.getD i undef
theorem Ym {P:Program} {c:Code} {Q:Exit→Act→World→Prop} {a:Act} {w:World} (idx:List Nat) (F:(Nat→Value)→World→Prop) (h:Code.wp P c (fun e b w'=>e=.normal∧b=A8t a idx (D1i b)∧F (D1i b) w') a w) (hk:∀f w',F f w'→Q .normal (A8t a idx f) w'):Code.wp P c Q a w:=
 Code.wp_mono (fun e b w' ⟨he,hb,hF⟩=>by rw[he,hb];exact hk _ _ hF) h
theorem UsK.row {w:World} {A:Option Addr} {n c:Nat} {us:List UV} (h:UsK w (.slice A n c) us) {i:Nat} {u:UV} (hu:us[i]?=some u):∃g,A=some ⟨g,0,none⟩∧g<w.heap.size∧C6 w ⟨g,i*129,none⟩ 129=some (P9 u)∧u.Ok:=by
 rcases h.1 with ⟨h1,_⟩ | ⟨g,tl,c',h1,h2,h3⟩
 ·rw[h1]at hu;simp at hu
 ·injection h1 with h1;exact ⟨g,h1,h3,h2.row hu,h2.1 u (List.mem_of_getElem? hu)⟩
theorem KS.hs {w:World} {v:Value} {ks:List (List UInt8)} (h:KS w v ks):Hs w 0 w.heap.size v ks:=by
 rcases h with ⟨rfl,rfl⟩ | ⟨h,_⟩
 ·exact ⟨by simp,none,0,rfl,Nat.le_refl _,by simp[maxLen],.inl rfl⟩
 ·exact h
theorem OwnK.ks0 {w:World} {base:Nat} {v:Value} {ks:List (List UInt8)} (h:OwnK w base v ks) (hp:0<ks.length):KS w v ks:=.inr ⟨h.hs.less (Nat.zero_le _),hp,Ae h.2⟩
theorem C4j (p:Pt) (r:Gw) (q:Gr) (w:World) (ok:p.Ok 0 (Ef [])) (hq:B1p w r q) (hks:q.2.1.length≤65536) (hus:q.2.2.length≤65536) :
 Calls Tryz.prog 53 #[.agg #[p.val],r.V] w fun x w'=>∃q' n,x=.returned (.tuple #[.agg #[Pt.val q'],.int .i64 n])∧D8a q' n (Qd p q)∧Below w.heap.size w w':=by
 obtain⟨W0,aM⟩:∃x,x=((w.alloc (Obj.cells #[p.val] 122)).alloc (Obj.cells r.cells.toArray 64)).alloc (Obj.cells #[.nilIface] 122):=⟨_,rfl⟩;have B0:Below w.heap.size w W0:=by rw[aM];exact (((Below.refl _ _).alloc (Nat.le_refl _) _).alloc (by simp) _).alloc (by simp;omega) _
 have kP:Bk W0 w.heap.size 122 [p.val]:=by rw[aM];exact ((Bk.new w 122 [p.val]).alloc _).alloc _
 have kG:Bk W0 (w.heap.size+1) 64 r.cells:=by rw[aM];exact (by simpa using Bk.new (w.alloc (Obj.cells #[p.val] 122)) 64 r.cells:Bk _ _ _ _).alloc _
 have kR:Bk W0 (w.heap.size+2) 122 [.nilIface]:=by rw[aM];simpa using Bk.new ((w.alloc (Obj.cells #[p.val] 122)).alloc (Obj.cells r.cells.toArray 64)) 122 [.nilIface]
 obtain⟨id,⟨Ak,nk,ck⟩,⟨Au,nu,cu⟩⟩:=r;obtain⟨cO,ks,us⟩:=q;obtain⟨rfl,aC,hk,hu⟩:=hq;simp only at aC hk hu hks hus kG;have bH:=hk.ks;obtain⟨cP,cQ,ek⟩:=bH.form;obtain⟨cR,cS,eu⟩:=hu.1.form;injection ek with ek1 ek2 ek3;injection eu with eu1 eu2 eu3;subst ek1 ek2 ek3 eu1 eu2 eu3;have aQ:(Gw.cells ⟨id,⟨Ak,ks.length,ck⟩,⟨Au,us.length,cu⟩⟩).length=34:=Gw.len aC;obtain⟨R,hR⟩:∃R,R=Qd p (id,ks,us):=⟨_,rfl⟩;rw[←hR];have aR:W0.cell? ⟨w.heap.size+1,33,none⟩=some (.slice Au us.length cu):=kG.at_ (by rw[Gw.cells,List.getElem?_append_right (by simp[aC])];simp[aC,Sv.v]);have Fe:W0.cell? ⟨w.heap.size+1,32,none⟩=some (.slice Ak ks.length ck):=kG.at_ (by rw[Gw.cells,List.getElem?_append_right (by simp[aC])];simp[aC,Sv.v]);have bN:C6 W0 ⟨w.heap.size+1,0,none⟩ 32=some (c8 id):=by
  have:=kG.row (o:=0) (n:=32) (by rw[aQ];omega);rw[this];simp[Gw.cells,aC]
 obtain⟨m,hm⟩:∃m,m=us.length:=⟨_,rfl⟩;rw[←hm]at aR aQ kG aM hu ⊢;have bO:=Lib.hid bH;have cB:=Lib.hid hu;have HM:=Lib.hid hm;clear hk hu bH hm;by_cases hm0:m=0
 ·have aE:R=.error 81:=by rw[hR];unfold Qd;rw[if_pos (List.eq_nil_of_length_eq_zero (by rw[←HM.out];exact hm0))]
  subst aE;have cC:((m:Int)==0)=true:=by rw[hm0];rfl
  have p0:W0.cell? ⟨w.heap.size,0,none⟩=some p.val:=kP.at_ rfl;have r0:W0.cell? ⟨w.heap.size+1+1,0,none⟩=some .nilIface:=kR.at_ rfl;have rf:=kR.frozen 0;rw[aM]at aR p0 r0 rf;clear hR hm0;go_enter Tryz.func53,Tryz.ntmps53;go_wp2_with fail;have k2:=Bk.new ((w.alloc (Obj.cells #[p.val] 122)).alloc (Obj.cells (Gw.cells ⟨id,⟨Ak,ks.length,ck⟩,⟨Au,m,cu⟩⟩).toArray 64)) 122 [p.val];exact bodyPost_ret (E3 rfl (C9.row k2 (by simp) _ Tryz.underlying122 rfl (by kernel_rfl)) (C9.tmp rfl)) rfl ⟨p,81,rfl,rfl,(((Below.refl _ _).alloc (Nat.le_refl _) _).alloc (by simp) _).alloc (by simp;omega) _⟩
 ·have cC:((m:Int)==0)=false:=by rw[beq_eq_false_iff_ne];omega
  have p0:W0.cell? ⟨w.heap.size,0,none⟩=some p.val:=kP.at_ rfl;have hus:us≠[]:=fun e=>hm0 (by rw[HM.out,e];rfl);have aE:R=(if (p.get id 0).2.2=0 then
  (if ((p.get id 0).2.1 != decide (0<ks.length))=true then .error 130
   else if (p.get id 0).2.1=true∧(p.get id 0).1≠U0 ks then .error 130
   else Cy id p us ks) else .error ((p.get id 0).2.2:Int)):=by rw[hR];unfold Qd;rw[if_neg hus]
  have HR:=Lib.hid aE;have cD:=aR;rw[aM]at aR p0 bN;clear hR aE hm0 hus;go_enter Tryz.func53,Tryz.ntmps53;go_wp2_with fail;rw[←aM];refine (C6w id aC p ok.wf ok.dp W0).mono ?_;rintro x w1 ⟨rfl,b1⟩;have aZ:=Pt.get_length (k:=id) (d:=0) ok.wf;obtain⟨x,hx⟩:∃x,x=p.get id 0:=⟨_,rfl⟩;rw[←hx]at HR aZ ⊢;clear hx;obtain⟨gv,aA,en⟩:=x;dsimp only[D4l]at aZ ⊢;have bA:Hid (R=(if en=0 then
  (if (aA != decide (0<ks.length))=true then .error 130
   else if aA=true∧gv≠U0 ks then .error 130
   else Cy id p us ks) else .error (en:Int))):=Lib.hid HR.out
  obtain⟨W,hW⟩:∃x,x=w1.alloc (Obj.cells (c8 (z8 32)).toArray 35):=⟨_,rfl⟩;have k9:Bk W w1.heap.size 35 (c8 (z8 32)):=by rw[hW];exact Bk.new w1 _ _
  have bW:Below w1.heap.size w1 W:=by rw[hW];exact (Below.refl _ _).alloc (Nat.le_refl _) _
  obtain⟨V,hV⟩:∃x,x=C5 W ⟨w1.heap.size,0,none⟩ (c8 gv):=⟨_,rfl⟩;have aF:Bk V w1.heap.size 35 (c8 gv):=by rw[hV];exact Bk.put8 (n:=32) k9 (by simp) aZ
  have bV:Below w1.heap.size w1 V:=by rw[hV];exact C1 bW (Nat.le_refl _) _
  have aS:=C0 b1 bV b1.size;have aO:=Bk.can8 (n:=32) k9 (by simp);rw[hW]at aO;clear HR k9 bW bV b1 p0 bN aR;have aD:=kP.below aS kP.lt;have aB:=kG.below aS kG.lt;have aG:=kR.below aS kR.lt;have BV:=C0 B0 aS B0.size;have p0:V.cell? ⟨w.heap.size,0,none⟩=some p.val:=aD.at_ rfl;have r0:V.cell? ⟨w.heap.size+1+1,0,none⟩=some .nilIface:=aG.at_ rfl;have rf:=aG.frozen 0;have done:∀(W:World) (q:Pt),Below V.heap.size V W→Bk (W.setCell ⟨w.heap.size+1+1,0,none⟩ q.val) (w.heap.size+1+1) 122 [q.val]∧Below w.heap.size w (W.setCell ⟨w.heap.size+1+1,0,none⟩ q.val):=fun W q hW=>⟨(aG.below hW aG.lt).set_ 0 q.val,(C0 BV hW BV.size).setCell (by simp;omega) _⟩;clear aS kP kG kR;by_cases he:en=0
  ·rw[if_pos he]at bA;have bP:((en:Int) != 0)=false:=by rw[he];rfl
   clear he;have bB:V.cell? ⟨w.heap.size+1,32,none⟩=some (.slice Ak ks.length ck):=aB.at_ (by rw[Gw.cells,List.getElem?_append_right (by simp[aC])];simp[aC,Sv.v]);obtain⟨bb,aJ⟩:∃bb:Bool,bb=((aA != decide (0<ks.length))||(aA&&decide (gv≠U0 ks))):=⟨_,rfl⟩;have bC:Hid (R=if bb=true then .error 130 else Cy id p us ks):=Lib.hid (by
    rw[bA.out,aJ];cases (aA != decide (0<ks.length))<;>cases aA<;>by_cases hg:gv=U0 ks<;>simp[hg])
   have bI:=hV.trans (by rw[hW]);rw[bI]at p0 r0 rf bB;clear bA aO;go_wp2_with fail;rw[←bI]at p0 r0 rf bB ⊢;clear hV bI hW;refine Ym [30,31,32,33,34,35,36,37,38,39,40,41,42,43,44,45,46] (fun f W=>f 30=.bool bb∧Below V.heap.size V W) ?_ ?_
   ·have bQ:∀a b:Bool,(a==b) = !(a != b):=by decide
    clear bC done aD aG r0 rf p0;cases hA:(aA != decide (0<ks.length)) with
    | true=>
     have bR:(aA==decide (0<ks.length))=false:=by rw[bQ,hA];rfl
     rw[hA]at aJ;rw[aJ];clear aJ;go_quiet (fail);exact ⟨rfl,by kernel_rfl,rfl,Q9 (Below.refl _ _) _⟩
    | false=>
     have bR:(aA==decide (0<ks.length))=true:=by rw[bQ,hA];rfl
     cases aA with
     | false=>
      rw[hA]at aJ;rw[aJ];clear aJ;go_quiet (fail);exact ⟨rfl,by kernel_rfl,rfl,Q9 (Below.refl _ _) _⟩
     | true=>
      have cE:0<ks.length:=by simpa using bR
      have cT:decide (0<ks.length)=true:=decide_eq_true cE;have S1:Below V.heap.size V V.drew:=(Below.refl _ _).drew;have HV:=Lib.hid (((bO.out.up BV).up S1));refine D9 (fun W=>Bk W (w.heap.size+1) 64 (Gw.cells ⟨id,⟨Ak,ks.length,ck⟩,⟨Au,m,cu⟩⟩)∧Bk W w1.heap.size 35 (c8 gv)) (by kernel_rfl) ?_;refine C4 (A:=?cU) [0,1,2,3,4,5,6,7,8,9,10,11] (by kernel_rfl) (by kernel_rfl) rfl (by kernel_rfl) (by kernel_rfl) ⟨aB.drew,aF.drew⟩ (h:=fun W hW=>?cF) (hr:=?cV);case cF=>
       have f1:W.cell? ⟨w.heap.size+1,32,none⟩=some (.slice Ak ks.length ck):=hW.1.at_ (by rw[Gw.cells,List.getElem?_append_right (by simp[aC])];simp[aC,Sv.v]);have f2:=Bk.row8 (n:=32) hW.2 aZ;simp only[pick,List.getElem?_cons_zero,List.getElem?_cons_succ];repeat (go_big_quiet_step (fail))
       refine wpQuiet_nil ?_;rfl
      refine C2 12 (by kernel_rfl) (by rfl) (by rfl) (fun Q' hQ'=>?_);dsimp only[D8];have aH:=Lib.hid hQ';clear hQ';go_wp2_with fail;refine (Kf _ ks V.drew (HV.out.hs) (by omega)).mono ?_;rintro x V3 ⟨rfl,b3⟩;go_wp2_with fail;refine aH.out _ _ ⟨aB.drew.below b3 aB.drew.lt,aF.drew.below b3 aF.drew.lt⟩ ?_;clear aH;refine C2 13 (by kernel_rfl) (by rfl) (by rfl) (fun Q' hQ'=>?_);dsimp only[D8];have aH:=Lib.hid hQ';clear hQ';have cW:=T7 ks;go_wp2_with fail;have bS:(!(gv==U0 ks))=bb:=by
       rw[aJ,hA];by_cases hg:gv=U0 ks<;>simp[hg]
      rw[bS];refine aH.out _ _ ⟨aB.drew.below b3 aB.drew.lt,aF.drew.below b3 aF.drew.lt⟩ ?_;clear aH aJ bS;refine C2 14 (by kernel_rfl) (by rfl) (by rfl) (fun Q' hQ'=>?_);dsimp only[D8];go_wp2_with fail;refine hQ' _ _ ⟨aB.drew.below b3 aB.drew.lt,aF.drew.below b3 aF.drew.lt⟩ ?_;clear hQ';refine C2 15 (by kernel_rfl) (by rfl) (by rfl) (fun Q' hQ'=>?_);dsimp only[D8];go_wp2_with fail;refine hQ' _ _ ⟨aB.drew.below b3 aB.drew.lt,aF.drew.below b3 aF.drew.lt⟩ ?_;clear hQ';refine C2 16 (by kernel_rfl) (by rfl) (by rfl) (fun Q' hQ'=>?_);dsimp only[D8];go_wp2_with fail;refine hQ' _ _ ⟨aB.drew.below b3 aB.drew.lt,aF.drew.below b3 aF.drew.lt⟩ ?_;clear hQ';refine E5 (by kernel_rfl) ?_;exact ⟨rfl,by kernel_rfl,rfl,C0 S1 b3 S1.size⟩
   ·rintro f V2 ⟨bT,b2⟩;dsimp only[A8t,List.foldl];simp only[List.set_cons_succ,List.set_cons_zero];rw[bT];clear bT aF r0 rf p0 bB aJ Fe;have cX:=aD.below b2 aD.lt;have bU:=aB.below b2 aB.lt;have cY:=aG.below b2 aG.lt;have aT:∀W,Below V.heap.size V W→W.cell? ⟨w.heap.size,0,none⟩=some p.val∧W.cell? ⟨w.heap.size+1+1,0,none⟩=some .nilIface∧W.frozen? ⟨w.heap.size+1+1,0,none⟩=false:=fun W hW=>⟨(aD.below hW aD.lt).at_ rfl,(aG.below hW aG.lt).at_ rfl,(aG.below hW aG.lt).frozen 0⟩;cases bb with
    | true=>
     have aE:R=.error 130:=by rw[bC.out,if_pos rfl]
     subst aE;obtain⟨p0,r0,rf⟩:=aT V2 b2;go_wp2_with fail;exact bodyPost_ret (E3 rfl (C9.row (done _ p b2).1 rfl _ Tryz.underlying122 rfl (by kernel_rfl)) (C9.tmp rfl)) rfl ⟨p,_,rfl,rfl,(done _ p b2).2⟩
    | false=>
     have cG:Hid (R=Cy id p us ks):=Lib.hid (by rw[bC.out];simp);have bB:V2.cell? ⟨w.heap.size+1,32,none⟩=some (.slice Ak ks.length ck):=bU.at_ (by rw[Gw.cells,List.getElem?_append_right (by simp[aC])];simp[aC,Sv.v]);have cD:V2.cell? ⟨w.heap.size+1,33,none⟩=some (.slice Au m cu):=bU.at_ (by rw[Gw.cells,List.getElem?_append_right (by simp[aC])];simp[aC,Sv.v]);clear bC;go_wp2_with fail;go_loopw [9,53] (fun kv jv wr=>∃(u1 u2:List UV) (k':List (List UInt8)),jv=.int .i64 (u1.length:Int)∧us=u1++u2∧KS wr kv k'∧k'.length≤65536∧Below V.heap.size V wr∧Hid (R=Cy id p u2 k')) (fun _ jv _=>us.length-(intOf jv).toNat)
     case atStart=>exact ⟨[],us,ks,rfl,rfl,bO.out.up (C0 BV b2 BV.size),hks,b2,cG⟩
     case round=>
      obtain⟨u1,u2,k',rfl,aN,hK,cZ,b3,bD⟩:=hrel;have aU:m=us.length:=HM.out;obtain⟨p0,r0,rf⟩:=aT wr b3;have bJ:=aB.below b3 aB.lt;have dC:C6 wr ⟨w.heap.size+1,0,none⟩ 32=some (c8 id):=by
       have:=bJ.row (o:=0) (n:=32) (by rw[aQ];omega);rw[this];simp[Gw.cells,aC]
      cases u2 with
      | nil=>
       have cH:decide (u1.length<m)=false:=decide_eq_false (by rw[aU,aN];simp);have aE:R=match p.put id (U0 k') 256 0 with | some q=>.ok q | none=>.error 100:=by rw[bD.out];unfold Cy;rfl
       have cI:=Lib.hid aE;have bK:=Lib.hid hK;have HS:=Lib.hid aN;clear aE hK aN aU bD p0 r0 rf;go_wp2_with fail;have S1:Below wr.heap.size wr wr.drew:=(Below.refl _ _).drew;have bX:=Lib.hid ((bK.out.up S1).hs);have b31:=C0 b3 S1 b3.size;clear S1;refine D9 (fun W=>Bk W w.heap.size 122 [p.val]∧Bk W (w.heap.size+1) 64 (Gw.cells ⟨id,⟨Ak,ks.length,ck⟩,⟨Au,m,cu⟩⟩)) (by kernel_rfl) ?_;refine C4 (A:=?dD) [0,1,2,3] (by kernel_rfl) (by kernel_rfl) rfl (by kernel_rfl) (by kernel_rfl) ⟨aD.below b31 aD.lt,aB.below b31 aB.lt⟩ (h:=fun W hW=>?cJ) (hr:=?dF);case cJ=>
        have f1:W.cell? ⟨w.heap.size,0,none⟩=some p.val:=hW.1.at_ rfl;have f2:C6 W ⟨w.heap.size+1,0,none⟩ 32=some (c8 id):=by have:=hW.2.row (o:=0) (n:=32) (by rw[aQ];omega);rw[this];simp[Gw.cells,aC]
        simp only[pick,List.getElem?_cons_zero,List.getElem?_cons_succ];repeat (go_big_quiet_step (fail))
        refine wpQuiet_nil ?_;rfl
       refine C2 4 (by kernel_rfl) (by rfl) (by rfl) (fun Q' hQ'=>?_);dsimp only[D8];have aH:=Lib.hid hQ';clear hQ';go_wp2_with fail;refine (Kf _ k' wr.drew bX.out (by omega)).mono ?_;rintro x w5 ⟨rfl,b5⟩;have aK:=C0 b31 b5 b31.size;clear b5 bX;go_wp2_with fail;refine aH.out _ _ ⟨aD.below aK aD.lt,aB.below aK aB.lt⟩ ?_;clear aH;refine C2 5 (by kernel_rfl) (by rfl) (by rfl) (fun Q' hQ'=>?_);dsimp only[D8];have aH:=Lib.hid hQ';clear hQ';go_wp2_with fail;refine (C8t p id (U0 k') aC (T7 _) (Ef []) ok w5).mono ?_;rintro x w6 ⟨q,dG,rfl,aL,b6⟩;have aI:=C0 aK b6 aK.size;have cK:=Lib.hid aL;clear b6 aL;go_wp2_with fail;refine aH.out _ _ ⟨aD.below aI aD.lt,aB.below aI aB.lt⟩ ?_;clear aH;refine C4 (A:=?dI) [6,7] (by kernel_rfl) (by kernel_rfl) rfl (by kernel_rfl) (by kernel_rfl) ⟨aD.below aI aD.lt,aB.below aI aB.lt⟩ (h:=fun W hW=>?cL) (hr:=?dJ);case cL=>
        simp only[pick,List.getElem?_cons_zero,List.getElem?_cons_succ];repeat (go_big_quiet_step (fail))
        refine wpQuiet_nil ?_;rfl
       refine C2 8 (by kernel_rfl) (by rfl) (by rfl) (fun Q' hQ'=>?_);dsimp only[D8];obtain⟨p0,r0,rf⟩:=aT w6 aI;go_wp2_with fail;refine hQ' _ _ ⟨(aD.below aI aD.lt).far (by simp;omega) _,(aB.below aI aB.lt).far (by simp) _⟩ ?_;clear hQ';refine C2 9 (by kernel_rfl) (by rfl) (by rfl) (fun Q' hQ'=>?_);dsimp only[D8];go_wp2_with fail;refine hQ' _ _ ⟨(aD.below aI aD.lt).far (by simp;omega) _,(aB.below aI aB.lt).far (by simp) _⟩ ?_;clear hQ';refine E5 (by kernel_rfl) ?_;go_wp2_with fail;refine bodyPost_ret (E3 rfl (C9.row (done w6 q aI).1 rfl _ Tryz.underlying122 rfl (by kernel_rfl)) (C9.tmp rfl)) rfl ⟨q,_,rfl,?_,(done w6 q aI).2⟩;rw[cI.out];have aL:=cK.out;unfold Pv at aL;cases hq:p.put id (U0 k') 256 0 with
       | none=>rw[hq]at aL;exact aL.2
       | some y=>rw[hq]at aL;exact ⟨aL.1.symm,aL.2⟩
      | cons u u3=>
       have cH:decide (u1.length<m)=true:=decide_eq_true (by rw[aU,aN];simp);have dK:u1.length<m:=by rw[aU,aN];simp
       obtain⟨gu,rfl,dL,dM,bE⟩:=UsK.row (cB.out.up (C0 BV b3 BV.size)) (i:=u1.length) (u:=u) (by rw[aN];simp);have bY:=bE.len;have dO:=bE.id;have bK:=Lib.hid hK;have bF:Hid (R=if u.id=id then (if Az k' u=0 then Cy id p u3 (Cn k' u) else .error (Az k' u)) else .error 110):=Lib.hid (by rw[bD.out,Ro]);have HS:=Lib.hid aN;obtain⟨w4,aV⟩:∃x,x=C5 (wr.alloc (Obj.cells (P9 (Ic 129)).toArray 48)) ⟨wr.heap.size,0,none⟩ (P9 u):=⟨_,rfl⟩;have aO:=(Bk.new wr 48 (P9 (Ic 129))).canvc (n:=129) (Cr _).len;have ku:Bk w4 wr.heap.size 48 (P9 u):=by rw[aV];exact (Bk.new wr 48 (P9 (Ic 129))).putvc (n:=129) (Cr _).len bY
       have b4:Below wr.heap.size wr w4:=by rw[aV];exact C1 ((Below.refl _ _).alloc (Nat.le_refl _) _) (Nat.le_refl _) _
       have bL:=UV.loadid ku bE;have aW:=Bk.rowvc (n:=129) ku bY;have bM:C6 w4 ⟨w.heap.size+1,0,none⟩ 32=some (c8 id):=by have:=(bJ.below b4 bJ.lt).row (o:=0) (n:=32) (by rw[aQ];omega);rw[this];simp[Gw.cells,aC]
       have aX:=C0 b3 b4 b3.size;obtain⟨p0,r0,rf⟩:=aT w4 aX;rw[aV]at bL aW bM p0 r0 rf;clear hK aN bD aU;by_cases hid:u.id=id
       ·have cM:(u.id==id)=true:=by rw[hid,beq_self_eq_true]
        have cN:=Lib.hid (bK.out.up b4);have bZ:Hid (R=if Az k' u=0 then Cy id p u3 (Cn k' u) else .error (Az k' u)):=Lib.hid (by rw[bF.out,if_pos hid]);clear hid bF;go_wp2_with fail;rw[←aV];refine (Th _ k' u bE w4 cN.out (by omega)).mono ?_;rintro x w5 ⟨r,rfl,aP,b5⟩;have aK:=C0 aX b5 aX.size;obtain⟨en,bG⟩:∃x,x=Az k' u:=⟨_,rfl⟩;have aY:Hid (R=if en=0 then Cy id p u3 (Cn k' u) else .error en):=Lib.hid (by rw[bZ.out,bG]);have HE:=Lib.hid bG;obtain⟨p0,r0,rf⟩:=aT w5 aK;rw[←bG];clear bZ bG;by_cases h0:en=0
        ·rw[if_pos h0]at aY;subst h0;obtain⟨dQ,cA⟩:=C6u HE.out.symm;have HO:=Lib.hid (aP.ks0 (by rw[cA];simp));clear cA aP;go_wp2_with fail;go_roundw;case rel=>exact ⟨u1++[u],u3,Cn k' u,by rw[A4p (by have:=HM.out;omega)];simp,by rw[HS.out];simp,HO.out,by omega,aK,aY⟩
         case measure=>have dS:=HM.out;rw[A4p (by omega)];simp only[intOf];omega
        ·rw[if_neg h0]at aY;have aE:=aY.out;subst aE;have bP:(en != 0)=true:=by rw[bne_iff_ne];exact h0
         clear h0 aY aP;go_wp2_with fail;exact bodyPost_ret (E3 rfl (C9.row (done _ p aK).1 rfl _ Tryz.underlying122 rfl (by kernel_rfl)) (C9.tmp rfl)) rfl ⟨p,_,rfl,rfl,(done _ p aK).2⟩
       ·have cM:(u.id==id)=false:=beq_eq_false_iff_ne.2 hid;have aE:R=.error 110:=by rw[bF.out,if_neg hid]
        subst aE;clear hid bF;go_wp2_with fail;rw[←aV];exact bodyPost_ret (E3 rfl (C9.row (done _ p aX).1 rfl _ Tryz.underlying122 rfl (by kernel_rfl)) (C9.tmp rfl)) rfl ⟨p,_,rfl,rfl,(done _ p aX).2⟩
  ·have aE:R=.error (en:Int):=by rw[bA.out,if_neg he]
   subst aE;have bP:((en:Int) != 0)=true:=by rw[bne_iff_ne];omega
   clear he;rw[hV,hW]at p0 r0 rf;go_wp2_with fail;rw[←hW,←hV];exact bodyPost_ret (E3 rfl (C9.row (done V p (Below.refl _ _)).1 rfl _ Tryz.underlying122 rfl (by kernel_rfl)) (C9.tmp rfl)) rfl ⟨p,_,rfl,rfl,(done V p (Below.refl _ _)).2⟩
section
theorem By.ofRow {w:World} {g o:Nat} {l:List UInt8} (h:C6 w ⟨g,o,none⟩ 32=some (c8 l)) (hg:g<w.heap.size) (hl:l.length=32):By w 0 w.heap.size (.slice (some ⟨g,o,none⟩) 32 32) l:=by
 have:=By.mk_ (w:=w) (lo:=0) (B:=w.heap.size) (A:=some ⟨g,o,none⟩) (c:=32) (l:=l) (by omega) (by decide) (.inr ⟨g,o,rfl,Nat.zero_le _,hg,(U9.1 h).2⟩);rwa [hl]at this
section
variable {w w' : World}
theorem B1p.up {r:Gw} {q:Gr} (h:B1p w r q) (hb:Below w.heap.size w w'):B1p w' r q:=⟨h.1,h.2.1,h.2.2.1.up hb,h.2.2.2.up hb⟩
theorem GosAre.at_:∀ {R:List Gw} {L:List Gr},GosAre w R L→∀ {i:Nat} {q:Gr},L[i]?=some q→∃r,B1p w r q∧((R.flatMap Gw.cells).drop (i*34)).take 34=r.cells
 | [],[],_,i,q,h=>by simp at h
 | r::R,q::L,h,0,q',e=>by
  simp at e;subst e;have hl:=Gw.len (r:=r) (by rw[h.1.1];exact h.1.2.1);exact ⟨r,h.1,by simp[hl]⟩
 | r::R,q::L,h,i+1,q',e=>by
  have hl:=Gw.len (r:=r) (by rw[h.1.1];exact h.1.2.1);obtain⟨r',h1,h2⟩:=GosAre.at_ h.2 (i:=i) (q:=q') (by simpa using e);refine ⟨r',h1,?_⟩;rw[List.flatMap_cons,show (i+1)*34=r.cells.length+i*34 by omega,List.drop_length_add_append];exact h2
 | [],_::_,h,_,_,_=>h.elim
 | _::_,[],h,_,_,_=>h.elim
theorem Vf.up {v:Value} {gs:List Gr} (h:Vf w v gs) (hb:Below w.heap.size w w'):Vf w' v gs:=by
 obtain⟨R,h1,h2⟩:=h;exact ⟨R,h1.map (fun x=>x.up hb) (fun x=>x.up hb),Q7 h2 hb (Nat.le_refl _)⟩
theorem Vf.form {v:Value} {gs:List Gr} (h:Vf w v gs):∃A c,v=.slice A gs.length c∧gs.length≤9223372036854775807:=by
 obtain⟨R,h1,h2⟩:=h;obtain⟨A,c,e,h3,h4⟩:=O7 h2;exact ⟨A,c,e,Nat.le_trans h3 h4⟩
theorem Vf.row {A:Option Addr} {n c:Nat} {gs:List Gr} (h:Vf w (.slice A n c) gs) {i:Nat} {q:Gr} (hq:gs[i]?=some q):∃b r,A=some ⟨b,0,none⟩∧b<w.heap.size∧B1p w r q∧C6 w ⟨b,i*34,none⟩ 34=some r.cells:=by
 obtain⟨R,h1,h2⟩:=h;obtain⟨r,h3,h4⟩:=h1.at_ hq;have hi:i<gs.length:=(List.getElem?_eq_some_iff.1 hq).1;have hl:=h1.cells;rcases h2.2 with ⟨_,hn⟩ | ⟨b,cap,cur,e,hbg,hh,_⟩
 ·omega
 ·injection e with e1 e2 e3;subst e1 e3;refine ⟨b,r,rfl,(Array.getElem?_eq_some_iff.1 hh).1,h3,U9.2 ⟨Gw.len (by rw[h3.1];exact h3.2.1),fun j u hj=>?_⟩⟩;have aA:j<34:=by have:=(List.getElem?_eq_some_iff.1 hj).1;rw[Gw.len (by rw[h3.1];exact h3.2.1)]at this;exact this
  have:=h2.cells (g:=b) rfl (i*34+j) u (by rw[←hj,←h4];simp only[List.getElem?_take,List.getElem?_drop,if_pos aA]);rwa [Q4,Nat.zero_add]at this
end
theorem Gw.rowid {W:World} {g o:Nat} {r:Gw} (h:C6 W ⟨g,o,none⟩ 34=some r.cells) (hr:r.id.length=32):C6 W ⟨g,o,none⟩ 32=some (c8 r.id):=by
 have h2:=U9.1 h;refine U9.2 ⟨by simp[hr],fun j u hj=>h2.2 j u ?_⟩;have:j<32:=by have:=(List.getElem?_eq_some_iff.1 hj).1;simpa [hr] using this
 rw[Gw.cells,List.getElem?_append_left (by simp[hr];omega)];exact hj
theorem C3l {i n:Nat} (h:i<n):n-(intOf (.int .i64 ((i:Int)+1))).toNat<n-(intOf (.int .i64 (i:Int))).toNat:=by
 simp only[intOf];omega
theorem C1e {j:Nat} (h:j<9223372036854775807):wrap64 (j:Int)=(j:Int):=by unfold wrap64;omega
theorem C2f {j:Nat} (h:j<9223372036854775807):wrap64 ((j:Int)+1)=(j:Int)+1:=by unfold wrap64;omega
theorem Ri (a b:List UInt8) (ha:a.length=32) (hb:b.length=32) (v:Value) (l:List UInt8) (w:World) (hv:By w 0 w.heap.size v l) (hn:l.length≤1099511627776) :
 Calls Tryz.prog 15 #[A8 a,A8 b,v] w fun x w'=>x=.returned (.int .i64 (A2f a b l))∧Below w.heap.size w w':=by
 obtain⟨R,hR⟩:∃R,R=A2f a b l:=⟨_,rfl⟩;rw[←hR];have HR:=Lib.hid hR;clear hR;obtain⟨W0,aI⟩:∃x,x=(w.alloc (Obj.cells (c8 a).toArray 35)).alloc (Obj.cells (c8 b).toArray 35):=⟨_,rfl⟩;have B0:Below w.heap.size w W0:=by rw[aI];exact ((Below.refl _ _).alloc (Nat.le_refl _) _).alloc (by simp) _
 have kA:Bk W0 w.heap.size 35 (c8 a):=by rw[aI];exact (Bk.new w 35 (c8 a)).alloc _
 have kB:Bk W0 (w.heap.size+1) 35 (c8 b):=by rw[aI];simpa using Bk.new (w.alloc (Obj.cells (c8 a).toArray 35)) 35 (c8 b)
 go_enter Tryz.func15,Tryz.ntmps15;go_wp2_with fail;rw[←aI];refine (A1m v l W0 (hv.up B0) hn).mono ?_;rintro x w1 ⟨p,gv,e,rfl,hp,b1⟩;obtain⟨W1,aE⟩:∃x,x=w1.alloc (Obj.cells #[p.val] 122):=⟨_,rfl⟩;have bb:Below w1.heap.size w1 W1:=by rw[aE];exact (Below.refl _ _).alloc (Nat.le_refl _) _
 have b2:=C0 b1 bb b1.size;have B1:=C0 B0 b2 B0.size;have aS:=kA.below b2 kA.lt;have aY:=kB.below b2 kB.lt;have aK:Bk W1 w1.heap.size 122 [p.val]:=by rw[aE];exact Bk.new w1 _ _
 have HP:=Lib.hid hp;have cI:w.heap.size+2≤w1.heap.size:=by have:=b1.size;rw[aI]at this;simpa using this
 clear hp b1 kA kB B0 aI b2 hn;obtain⟨pa,bP⟩:∃pa,pa=Da l:=⟨_,rfl⟩;have HA:=Lib.hid bP;clear bP;cases pa with
 | error e'=>
  have hp:=HP.out;rw[←HA.out]at hp;obtain⟨rfl,rfl,rfl⟩:=hp;have bQ:=A3h HA.out.symm;have cJ:(e != 0)=true:=by rw[bne_iff_ne];exact bQ
  have hr:=HR.out;unfold A2f at hr;rw[←HA.out]at hr;dsimp only at hr;subst hr;clear HR HP HA bQ;go_wp2_with fail;go_ret;exact ⟨rfl,by rw[←aE];exact B1⟩
 | ok r=>
  obtain⟨p',gs⟩:=r;have hp:=HP.out;rw[←HA.out]at hp;obtain⟨rfl,rfl,aZ⟩:=hp;obtain⟨bA,bR⟩:=C2p HA.out.symm;have aJ:=Pt.root_length bA.wf;have bS:Hid (R=if p.root≠a then 130 else match Gy p none gs with | .error e=>e | .ok p=>if p.root≠b then 130 else 0):=Lib.hid (by rw[HR.out];unfold A2f;rw[←HA.out]<;>rfl);have HG:=Lib.hid (aZ.up bb);obtain⟨Ag,cg,rfl,bB⟩:=aZ.form;obtain⟨n,hn⟩:∃n,n=gs.length:=⟨_,rfl⟩;rw[←hn]at bB;have bT:=Lib.hid bB;clear bB;have HN:=Lib.hid hn;rw[←hn]at HG ⊢;clear HR HP HA aZ hn;have p0:=aK.at_ (i:=0) rfl;rw[aE]at p0;go_wp2_with fail;rw[←aE];rw[←aE]at p0;clear aE p0;have S1:Below W1.heap.size W1 W1.drew:=(Below.refl _ _).drew;refine D9 (fun W=>Bk W w1.heap.size 122 [p.val]∧Bk W w.heap.size 35 (c8 a)) (by kernel_rfl) ?_;refine C4 (A:=?dI) [0,2] (by kernel_rfl) (by kernel_rfl) rfl (by kernel_rfl) (by kernel_rfl) ⟨aK.drew,aS.drew⟩ (h:=fun W hW=>?cK) (hr:=?dJ);case cK=>
   have f1:W.cell? ⟨w1.heap.size,0,none⟩=some p.val:=hW.1.at_ rfl;have f2:=Bk.row8 (n:=32) hW.2 ha;simp only[pick,List.getElem?_cons_zero,List.getElem?_cons_succ];repeat (go_big_quiet_step (fail))
   refine wpQuiet_nil ?_;rfl
  refine C2 1 (by kernel_rfl) (by rfl) (by rfl) (fun Q' hQ'=>?_);dsimp only[D8];have aL:=Lib.hid hQ';clear hQ';go_wp2_with fail;refine (A0i p bA.wf W1.drew).mono ?_;rintro x w2 ⟨rfl,b2⟩;have b3:=C0 S1 b2 S1.size;have bU:=aS.below b3 aS.lt;have cL:=aY.below b3 aY.lt;have bC:=aK.below b3 aK.lt;have B2:=C0 B1 b3 B1.size;have cM:=Lib.hid (HG.out.up b3);clear b2 b3 S1 aS aY aK B1 HG;go_wp2_with fail;refine aL.out _ _ ⟨bC,bU⟩ ?_;clear aL;refine C2 3 (by kernel_rfl) (by rfl) (by rfl) (fun Q' hQ'=>?_);dsimp only[D8];obtain⟨bb,aF⟩:∃bb,bb=(!(p.root==a)):=⟨_,rfl⟩;go_wp2_with fail;rw[←aF];refine hQ' _ _ ⟨bC,bU⟩ ?_;clear hQ';refine E5 (by kernel_rfl) ?_;have bD:Hid (R=if bb=true then 130 else match Gy p none gs with | .error e=>e | .ok p=>if p.root≠b then 130 else 0):=Lib.hid (by
   rw[bS.out,aF];by_cases hra:p.root=a<;>simp[hra])
  clear aF bS;cases bb with
  | true=>
   have hr:=bD.out;rw[if_pos rfl]at hr;subst hr;go_wp2_with fail;go_ret;exact ⟨rfl,B2⟩
  | false=>
   have cN:Hid (R=match Gy p none gs with | .error e=>e | .ok p=>if p.root≠b then 130 else 0):=Lib.hid (by rw[bD.out];simp);clear bD aJ;go_wp2_with fail;go_loopw [27] (fun jv wr=>∃(g1 g2:List Gr) (pc:Pt),jv=.int .i64 (g1.length:Int)∧gs=g1++g2∧pc.Ok 0 (Ef [])∧Bk wr w1.heap.size 122 [pc.val]∧Bk wr (w.heap.size+1) 35 (c8 b)∧Below w.heap.size w wr∧Vf wr (.slice Ag n cg) gs∧Hid (R=match Gy pc (g1.getLast?.map (·.1)) g2 with | .error e=>e | .ok p=>if p.root≠b then 130 else 0)) (fun jv _=>n-(intOf jv).toNat)
   case atStart=>exact ⟨[],gs,p,rfl,rfl,bA,bC,cL,B2,cM.out,cN⟩
   case round=>
    obtain⟨g1,g2,pc,rfl,aC,aT,kP,kB,BW,hG,aM⟩:=hrel;have aN:n=gs.length:=HN.out;cases g2 with
    | nil=>
     have cO:decide (g1.length<n)=false:=decide_eq_false (by rw[aN,aC];simp);have bX:Hid (R=if pc.root≠b then 130 else 0):=Lib.hid (by rw[aM.out];rfl);have aJ:=Pt.root_length aT.wf;clear aM aN aC hG;go_wp2_with fail;have S1:Below wr.heap.size wr wr.drew:=(Below.refl _ _).drew;refine D9 (fun W=>Bk W w1.heap.size 122 [pc.val]∧Bk W (w.heap.size+1) 35 (c8 b)) (by kernel_rfl) ?_;refine C4 (A:=?dK) [0,2] (by kernel_rfl) (by kernel_rfl) rfl (by kernel_rfl) (by kernel_rfl) ⟨kP.drew,kB.drew⟩ (h:=fun W hW=>?cP) (hr:=?dL);case cP=>
      have f1:W.cell? ⟨w1.heap.size,0,none⟩=some pc.val:=hW.1.at_ rfl;have f2:=Bk.row8 (n:=32) hW.2 hb;simp only[pick,List.getElem?_cons_zero,List.getElem?_cons_succ];repeat (go_big_quiet_step (fail))
      refine wpQuiet_nil ?_;rfl
     refine C2 1 (by kernel_rfl) (by rfl) (by rfl) (fun Q' hQ'=>?_);dsimp only[D8];have aL:=Lib.hid hQ';clear hQ';go_wp2_with fail;refine (A0i pc aT.wf wr.drew).mono ?_;rintro x w5 ⟨rfl,b5⟩;have b6:=C0 S1 b5 S1.size;have BF:=C0 BW b6 BW.size;go_wp2_with fail;refine aL.out _ _ ⟨kP.below b6 kP.lt,kB.below b6 kB.lt⟩ ?_;clear aL;refine C2 3 (by kernel_rfl) (by rfl) (by rfl) (fun Q' hQ'=>?_);dsimp only[D8];obtain⟨bb,aF⟩:∃bb,bb=(!(pc.root==b)):=⟨_,rfl⟩;go_wp2_with fail;rw[←aF];refine hQ' _ _ ⟨kP.below b6 kP.lt,kB.below b6 kB.lt⟩ ?_;clear hQ';refine E5 (by kernel_rfl) ?_;have hr:R=if bb=true then 130 else 0:=by
      rw[bX.out,aF];by_cases hra:pc.root=b<;>simp[hra]
     clear aF bX;cases bb with
     | true=>
      rw[if_pos rfl]at hr;subst hr;go_wp2_with fail;go_ret;exact ⟨rfl,BF⟩
     | false=>
      rw[if_neg (by simp)]at hr;subst hr;go_wp2_with fail;go_ret;exact ⟨rfl,BF⟩
    | cons q g3=>
     have cO:decide (g1.length<n)=true:=decide_eq_true (by rw[aN,aC];simp);have bE:g1.length<n:=by rw[aN,aC];simp
     obtain⟨b2,r,rfl,cQ,aG,bF⟩:=hG.row (i:=g1.length) (q:=q) (by rw[aC];simp);have aJ:=Gw.len (r:=r) (by rw[aG.1];exact aG.2.1);have bY:r.id.length=32:=by rw[aG.1];exact aG.2.1
     have bZ:=bR q (by rw[aC];simp);have cA:=Lib.hid aG.1;have HS:=Lib.hid aC;have bG:=Lib.hid aG;have cB:=Lib.hid hG;have bH:E4 (wr.alloc (Obj.cells Uj.cells.toArray 64)) ⟨wr.heap.size,0,none⟩ 34=true:=(Bk.new wr _ _).can (by rw[Gw.len (by simp[Uj])];omega);obtain⟨W3,aU⟩:∃x,x=C5 (wr.alloc (Obj.cells Uj.cells.toArray 64)) ⟨wr.heap.size,0,none⟩ r.cells:=⟨_,rfl⟩;have kg:Bk W3 wr.heap.size 64 r.cells:=by rw[aU];exact (Bk.new wr _ _).puts (by rw[aJ,Gw.len (by simp[Uj])])
     have b3:Below wr.heap.size wr W3:=by rw[aU];exact C1 ((Below.refl _ _).alloc (Nat.le_refl _) _) (Nat.le_refl _) _
     have cC:b2<W3.heap.size:=Nat.lt_of_lt_of_le cQ b3.size;have aV:=hG.up b3;clear aN aC aG hG;go_wp2_with fail;rw[←aU];clear bH bF aU;refine Ym [32,33,34,35,36,37,38,39,40,41,42,43,44,45] (fun f W=>f 45=.bool (A2r (g1.getLast?.map (·.1)) q.1)∧Below W3.heap.size W3 W) ?_ ?_
     ·clear aM kP kB BW cB bG;rcases List.eq_nil_or_concat g1 with rfl | ⟨g0,q0,rfl⟩
      ·have cR:decide ((0:Int)<((([]:List Gr).length:Nat):Int))=false:=rfl;have bI:decide (0<([]:List Gr).length)=false:=rfl;go_quiet (fail);exact ⟨rfl,by kernel_rfl,rfl,Q9 (Below.refl _ _) _⟩
      ·rw[List.concat_eq_append]at *;obtain⟨j,hj⟩:∃j,j=g0.length:=⟨_,rfl⟩;have bJ:(g0++[q0]).length=j+1:=by rw[hj];simp
       obtain⟨b4,r0,e4,dM,aA,aD⟩:=aV.row (i:=j) (q:=q0) (by rw[HS.out,hj];simp);injection e4 with e4;injection e4 with e4;subst e4;have cD:r0.id.length=32:=by rw[aA.1];exact aA.2.1
       have hx:=Lib.hid (By.ofRow (Gw.rowid aD cD) cC cD);have hy:=Lib.hid (By.ofRow (Gw.rowid (by have:=kg.rows;rwa [aJ]at this) bY) kg.lt bY);have cR:decide ((0:Int)<((j+1:Nat):Int))=true:=decide_eq_true (Int.natCast_pos.2 (Nat.succ_pos j));have bI:decide (0<j+1)=true:=decide_eq_true (Nat.succ_pos j);have cS:j<n:=Nat.lt_of_succ_lt (by have h:=bE;rw[bJ]at h;exact h);have cT:wrap64 (j:Int)=(j:Int):=C1e (Nat.lt_of_lt_of_le cS bT.out);have aH:A2r ((g0++[q0]).getLast?.map (·.1)) q.1=decide (0≤Lib.compareBytes r0.id r.id):=by rw[List.getLast?_concat,aA.1,cA.out];rfl
       obtain⟨cv,bK⟩:∃cv,cv=Lib.compareBytes r0.id r.id:=⟨_,rfl⟩;have HC:=Lib.hid bK;rw[bJ,aH,←bK];clear bK;clear aH bJ hj aD aA aV bR cA HS HN;have S1:Below W3.heap.size W3 W3.drew:=(Below.refl _ _).drew;have cU:=Lib.hid (hx.out.up S1);have cV:=Lib.hid (hy.out.up S1);refine D9 (fun _=>True) (by kernel_rfl) ?_;refine C4 (A:=?dO) [0,1,2,3,4,5,6,7,8,9,10] (by kernel_rfl) (by kernel_rfl) rfl (by kernel_rfl) (by kernel_rfl) trivial (h:=fun W hW=>?cW) (hr:=?dQ);case cW=>
        simp only[pick,List.getElem?_cons_zero,List.getElem?_cons_succ];repeat (go_big_quiet_step (fail))
        refine wpQuiet_nil ?_;rfl
       refine C2 11 (by kernel_rfl) (by rfl) (by rfl) (fun Q' hQ'=>?_);dsimp only[D8];go_wp2_with fail;refine (Tq _ _ r0.id r.id W3.drew cU.out cV.out).mono ?_;rintro x w5 ⟨rfl,cE⟩;rw[cE,←HC.out];clear cE;go_wp2_with fail;refine hQ' _ _ trivial ?_;clear hQ';refine C4 (A:=?dS) [12,13] (by kernel_rfl) (by kernel_rfl) rfl (by kernel_rfl) (by kernel_rfl) trivial (h:=fun W hW=>?cX) (hr:=?dT);case cX=>
        simp only[List.append_eq,List.nil_append,List.cons_append,pick,List.getElem?_cons_zero,List.getElem?_cons_succ];repeat (go_big_quiet_step (fail))
        refine wpQuiet_nil ?_;rfl
       refine E5 (by kernel_rfl) ?_;exact ⟨rfl,by kernel_rfl,rfl,S1⟩
     ·rintro f W4 ⟨cF,b4⟩;dsimp only[A8t,List.foldl];simp only[List.set_cons_succ,List.set_cons_zero];rw[cF];obtain⟨lb,aH⟩:∃lb,lb=A2r (g1.getLast?.map (·.1)) q.1:=⟨_,rfl⟩;rw[←aH];have HL:=Lib.hid aH;have aO:=C0 b3 b4 b3.size;have bL:=kP.below aO kP.lt;have cG:=kB.below aO kB.lt;have cY:=kg.below b4 kg.lt;have bM:=C0 BW aO BW.size;have cZ:=Lib.hid (aV.up b4);have aP:=Lib.hid (bG.out.up aO);have bN:Hid (R=if lb=true then 81 else match Qd pc q with | .error e=>e | .ok p'=>match Gy p' (some q.1) g3 with | .error e=>e | .ok p=>if p.root≠b then 130 else 0):=Lib.hid (by
       rw[aM.out,aH,A0b];cases A2r (g1.getLast?.map (·.1)) q.1
       ·cases Qd pc q<;>rfl
       ·rfl)
      clear cF aH b3 b4 aO kP kB kg BW aV cB bG aM cC;cases lb with
      | true=>
       have hr:=bN.out;rw[if_pos rfl]at hr;subst hr;go_wp2_with fail;go_ret;exact ⟨rfl,bM⟩
      | false=>
       have bO:Hid (R=match Qd pc q with | .error e=>e | .ok p'=>match Gy p' (some q.1) g3 with | .error e=>e | .ok p=>if p.root≠b then 130 else 0):=Lib.hid (by rw[bN.out];simp);have f1:W4.cell? ⟨w1.heap.size,0,none⟩=some pc.val:=bL.at_ rfl;have f2:C6 W4 ⟨wr.heap.size,0,none⟩ 34=some r.cells:=by have:=cY.rows;rwa [aJ]at this
       clear bN HL;go_wp2_with fail;refine (C4j pc r q W4 aT aP.out bZ.1 bZ.2).mono ?_;rintro x w5 ⟨q',e,rfl,aB,b5⟩;obtain⟨oa,aQ⟩:∃oa,oa=Qd pc q:=⟨_,rfl⟩;have aW:=bL.below b5 bL.lt;have dC:=C0 bM b5 bM.size;have p5:=aW.at_ (i:=0) rfl;have dU:=aW.frozen 0;have aR:Below w.heap.size w (w5.setCell ⟨w1.heap.size,0,none⟩ q'.val):=dC.setCell (p:=⟨w1.heap.size,0,none⟩) (by simp;omega) _;have aX:=bO.out;rw[←aQ]at aB aX;cases oa with
       | error e'=>
        have he:e=e':=aB;subst he;have cJ:(e != 0)=true:=by rw[bne_iff_ne];exact B8h aQ.symm
        subst aX;clear aQ bO aB;go_wp2_with fail;go_ret;exact ⟨rfl,aR⟩
       | ok p'=>
        obtain⟨rfl,rfl⟩:=aB;have dD:=D2j aP.out.2.1 aT aQ.symm;have dF:=Lib.hid ((cZ.out.up b5).grown (T6 w5 w1.heap.size 0 q'.val) (Fw aW) (by decide) (by decide) (by decide));have dG:=Lib.hid aX;have cH:wrap64 ((g1.length:Int)+1)=(g1.length:Int)+1:=C2f (Nat.lt_of_lt_of_le bE bT.out);clear aQ bO aX;go_wp2_with fail;go_roundw;case rel=>
         refine ⟨g1++[q],g3,q',by rw[cH,List.length_append];rfl,by rw[HS.out];simp,dD,aW.set_ 0 q'.val,(cG.below b5 cG.lt).far (p:=⟨w1.heap.size,0,none⟩) (Nat.ne_of_lt cI) _,aR,dF.out,?_⟩;rw[List.getLast?_concat];exact dG
        case measure=>rw[cH];exact C3l bE
end
end Go.Proofs.YtdfpoofbgjilgaaGreat
