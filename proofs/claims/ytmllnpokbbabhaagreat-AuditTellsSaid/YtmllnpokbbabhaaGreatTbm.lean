/- A part of the proof of AuditTells. -/
import Derived.Lib.Bytealg
import Derived.Test.YtmllnpokbbabhaaGreatTbl
set_option linter.unusedVariables false
set_option linter.unusedSimpArgs false
set_option maxRecDepth 100000
set_option maxHeartbeats 40000000
namespace Go.Proofs.YtmllnpokbbabhaaGreat
open Go Go.RowKit Sh
noncomputable def Dg (id:List UInt8) (p:Pt):List UV→List (List UInt8)→Except Int Pt
 | [],ks=>match p.put id (W8 ks) 256 0 with | some q=>.ok q | none=>.error 100
 | u::us,ks=>if u.id=id then (if Bp ks u=0 then Dg id p us (Dd ks u) else .error (Bp ks u)) else .error 110
noncomputable def Sf (p:Pt) (q:Gr):Except Int Pt:=
 if q.2.2=[] then .error 81 else
 if (p.get q.1 0).2.2=0 then
  (if ((p.get q.1 0).2.1 != decide (0<q.2.1.length))=true then .error 130
   else if (p.get q.1 0).2.1=true∧(p.get q.1 0).1≠W8 q.2.1 then .error 130
   else Dg q.1 p q.2.2 q.2.1) else .error ((p.get q.1 0).2.2:Int)
def E0b (q:Pt) (n:Int):Except Int Pt→Prop
 | .ok r=>q=r∧n=0
 | .error e=>n=e
theorem Tz {id:List UInt8} {p:Pt} {u:UV} {us:List UV} {ks:List (List UInt8)}:Dg id p (u::us) ks=if u.id=id then (if Bp ks u=0 then Dg id p us (Dd ks u) else .error (Bp ks u)) else .error 110:=by
 conv=>lhs;unfold Dg
theorem D1o {ks:List (List UInt8)} {u:UV} (h:Bp ks u=0):(Dd ks u).length≤64∧Dd ks u=ks++[u.key]:=by
 cases hs:signedB u with
 | false=>rw[(B3s hs).2]at h;cases h
 | true=>
  by_cases h2:u.ver=(ks.length:Int)+1
  ·rw[(B6a hs h2).1];refine ⟨?_,rfl⟩;unfold signedB at hs;simp only[Bool.and_eq_true,decide_eq_true_eq]at hs;simp;omega
  ·rw[(B5z hs h2).2]at h;cases h
theorem B5g {id:List UInt8} {p:Pt}:∀ {us:List UV} {ks:List (List UInt8)} {e:Int},Dg id p us ks=.error e→e≠0
 | [],ks,e,h=>by
  unfold Dg at h;split at h
  ·cases h
  ·injection h with h;omega
 | u::us,ks,e,h=>by
  unfold Dg at h;split at h
  ·split at h
   ·exact B5g h
   ·rename_i hn
    injection h with h;rw[←h];exact hn
  ·injection h with h;omega
theorem C0q {p:Pt} {q:Gr} {e:Int} (h:Sf p q=.error e):e≠0:=by
 unfold Sf at h;split at h
 ·injection h with h;omega
 ·split at h
  ·split at h
   ·injection h with h;omega
   ·split at h
    ·injection h with h;omega
    ·exact B5g h
  ·rename_i hn
   injection h with h;rw[←h];omega
def A2d:Option (List UInt8)→List UInt8→Bool
 | none,_=>false
 | some x,y=>decide (0≤Lib.compareBytes x y)
noncomputable def Hw:Pt→Option (List UInt8)→List Gr→Except Int Pt
 | p,_,[]=>.ok p
 | p,pr,q::gs=>if A2d pr q.1=true then .error 81 else match Sf p q with
  | .error e=>.error e
  | .ok p'=>Hw p' (some q.1) gs
theorem A2o {p:Pt} {pr:Option (List UInt8)} {q:Gr} {gs:List Gr}:Hw p pr (q::gs)=if A2d pr q.1=true then .error 81 else match Sf p q with | .error e=>.error e | .ok p'=>Hw p' (some q.1) gs:=by
 conv=>lhs;unfold Hw
noncomputable def A4j (a b l:List UInt8):Int:=match Dt l with
 | .error e=>e
 | .ok r=>if r.1.root≠a then 130 else match Hw r.1 none r.2 with
  | .error e=>e
  | .ok p=>if p.root≠b then 130 else 0
theorem A8d {b:List UInt8} {p:Pt} (h:Dm b=.ok p):p.Ok 0 (Eg []):=by
 unfold Dm at h;cases hr:rd 256 [] b with
 | error n=>rw[hr]at h;cases h
 | ok x=>
  obtain⟨q,aA⟩:=x;rw[hr]at h;cases aA with
  | cons _ _=>cases h
  | nil=>
   injection h with h;subst h;exact (B5n 256 [] b q [] rfl hr).2.1
theorem C1c:∀(n:Nat) (s:RS) (ks:List (List UInt8)),(Ox n s ks).1.length≤ks.length+n
 | 0,_,_=>Nat.le_refl _
 | n+1,s,ks=>by
  unfold Ox;split
  ·have:=C1c n (Az 32 s) (ks++[Re s]);simp at this;omega
  ·simp
theorem A5a:∀(n:Nat) (s:RS) (out:List G0),(∀q∈out,q.2.1.length≤65536)→∀q∈(Nr n s out).1,q.2.1.length≤65536
 | 0,_,_,h=>h
 | n+1,s,out,h=>by
  unfold Nr;split
  ·refine A5a n _ _ fun q hq=>?_;rcases List.mem_append.1 hq with hq | hq
   ·exact h q hq
   ·obtain rfl:=List.mem_singleton.1 hq;have h1:=C1c (Ji (Az 32 s)) (Lf (Az 32 s)) [];have h2:=Mh 65536 (Az 32 s);simp only[List.length_nil,Nat.zero_add]at h1;exact Nat.le_trans h1 h2
  ·exact h
theorem C1a:∀(n:Nat) (s:RS) (us:List UV) (f:Bool),(Xw n s us f).1.length≤us.length+n
 | 0,_,_,_=>Nat.le_refl _
 | n+1,s,us,f=>by
  unfold Xw;split
  ·have:=C1a n (B1j s) (us++[A4u s]) (f||B1d s);simp at this;omega
  ·simp
theorem C5l (l:List UInt8):(Fm l).1.length≤65536:=by
 have h1:=C1a (Ji (l,0)) (Lf (l,0)) [] false;have h2:=Mh 65536 (l,0);simp only[List.length_nil,Nat.zero_add]at h1;unfold Fm;dsimp only;split
 ·split
  ·simp
  ·exact Nat.le_trans h1 h2
 ·simp
theorem A5o:∀ {L:List G0} {acc gs:List Gr},(∀q∈acc,q.2.2.length≤65536)→Ey L acc=.ok gs→∀q∈gs,q.2.2.length≤65536
 | [],acc,gs,h,e=>by injection e with e;subst e;exact h
 | q::L,acc,gs,h,e=>by
  unfold Ey at e;split at e
  ·refine A5o (fun x hx=>?_) e;rcases List.mem_append.1 hx with hx | hx
   ·exact h x hx
   ·obtain rfl:=List.mem_singleton.1 hx;exact C5l _
  ·cases e
theorem A3l:∀ {L:List G0} {acc gs:List Gr},(∀q∈L,q.2.1.length≤65536)→(∀q∈acc,q.2.1.length≤65536)→Ey L acc=.ok gs→∀q∈gs,q.2.1.length≤65536
 | [],acc,gs,_,h,e=>by injection e with e;subst e;exact h
 | q::L,acc,gs,hL,h,e=>by
  unfold Ey at e;split at e
  ·refine A3l (fun x hx=>hL x (List.mem_cons_of_mem _ hx)) (fun x hx=>?_) e;rcases List.mem_append.1 hx with hx | hx
   ·exact h x hx
   ·obtain rfl:=List.mem_singleton.1 hx;exact hL q (by simp)
  ·cases e
theorem C4n {l:List UInt8} {p:Pt} {gs:List Gr} (h:Dt l=.ok (p,gs)):p.Ok 0 (Eg [])∧∀q∈gs,q.2.1.length≤65536∧q.2.2.length≤65536:=by
 unfold Dt at h;dsimp only at h;split at h
 ·split at h
  ·cases h
  ·rename_i p' hp
   split at h
   ·cases h
   ·rename_i gs' hm
    injection h with h;injection h with h1 h2;subst h1 h2;exact ⟨A8d hp,fun q hq=>⟨A3l (A5a _ _ [] (by simp)) (by simp) hm q hq,A5o (by simp) hm q hq⟩⟩
 ·cases h
theorem B4q:∀ {L:List G0} {acc:List Gr} {e:Int},Ey L acc=.error e→e≠0
 | [],acc,e,h=>by cases h
 | q::L,acc,e,h=>by
  unfold Ey at h;split at h
  ·exact B4q h
  ·rename_i hn
   injection h with h;rw[←h];exact hn
theorem A7j {l:List UInt8} {e:Int} (h:Dt l=.error e):e≠0:=by
 unfold Dt at h;dsimp only at h;split at h
 ·split at h
  ·rename_i m hp
   injection h with h;have:=Xe hp;omega
  ·split at h
   ·rename_i e' hm
    injection h with h;subst h;exact B4q hm
   ·cases h
 ·rename_i hn
  injection h with h;rw[←h];exact hn
theorem B4o {id:List UInt8} (hid:id.length=32) {p p':Pt} (ok:p.Ok 0 (Eg [])):∀ {us:List UV} {ks:List (List UInt8)},Dg id p us ks=.ok p'→p'.Ok 0 (Eg [])
 | [],ks,h=>by
  unfold Dg at h;split at h
  ·rename_i q hq
   injection h with h;subst h;exact (Pt.Ok.put hid (U2 ks) 256 0 p q (Eg []) rfl (fun i hi=>by omega) ok hq).1
  ·cases h
 | u::us,ks,h=>by
  rw[Tz]at h;split at h
  ·split at h
   ·exact B4o hid ok h
   ·cases h
  ·cases h
theorem D6h {p p':Pt} {q:Gr} (hid:q.1.length=32) (ok:p.Ok 0 (Eg [])) (h:Sf p q=.ok p'):p'.Ok 0 (Eg []):=by
 unfold Sf at h;split at h
 ·cases h
 ·split at h
  ·split at h
   ·cases h
   ·split at h
    ·cases h
    ·exact B4o hid ok h
  ·cases h
def C0e (a:Act) (idx:List Nat) (f:Nat→Value):Act:=⟨(idx.foldl (fun l i=>l.set i (f i)) a.tmps.toList).toArray,a.defers⟩
def E3e (a:Act) (i:Nat):Value:=a.tmps.getD i undef
theorem Wp {P:Program} {c:Code} {Q:Exit→Act→World→Prop} {a:Act} {w:World} (idx:List Nat) (F:(Nat→Value)→World→Prop) (h:Code.wp P c (fun e b w'=>e=.normal∧b=C0e a idx (E3e b)∧F (E3e b) w') a w) (hk:∀f w',F f w'→Q .normal (C0e a idx f) w'):Code.wp P c Q a w:=
 Code.wp_mono (fun e b w' ⟨he,hb,hF⟩=>by rw[he,hb];exact hk _ _ hF) h
theorem UsK.row {w:World} {A:Option Addr} {n c:Nat} {us:List UV} (h:UsK w (.slice A n c) us) {i:Nat} {u:UV} (hu:us[i]?=some u):∃g,A=some ⟨g,0,none⟩∧g<w.heap.size∧C4 w ⟨g,i*129,none⟩ 129=some (N9 u)∧u.Ok:=by
 rcases h.1 with ⟨h1,_⟩ | ⟨g,tl,c',h1,h2,h3⟩
 ·rw[h1]at hu;simp at hu
 ·injection h1 with h1;exact ⟨g,h1,h3,h2.row hu,h2.1 u (List.mem_of_getElem? hu)⟩
theorem KS.hs {w:World} {v:Value} {ks:List (List UInt8)} (h:KS w v ks):Hs w 0 w.heap.size v ks:=by
 rcases h with ⟨rfl,rfl⟩ | ⟨h,_⟩
 ·exact ⟨by simp,none,0,rfl,Nat.le_refl _,by simp[maxLen],.inl rfl⟩
 ·exact h
theorem OwnK.ks0 {w:World} {base:Nat} {v:Value} {ks:List (List UInt8)} (h:OwnK w base v ks) (hp:0<ks.length):KS w v ks:=.inr ⟨h.hs.less (Nat.zero_le _),hp,Be h.2⟩
theorem C7r (p:Pt) (r:Gw) (q:Gr) (w:World) (ok:p.Ok 0 (Eg [])) (hq:B1y w r q) (hks:q.2.1.length≤65536) (hus:q.2.2.length≤65536) :
 Calls Tryz.prog 41 #[.agg #[p.val],r.V] w fun x w'=>∃q' n,x=.returned (.tuple #[.agg #[Pt.val q'],.int .i64 n])∧E0b q' n (Sf p q)∧Below w.heap.size w w':=by
 obtain⟨W0,aJ⟩:=D9 (((w.alloc (Obj.cells #[p.val] 95)).alloc (Obj.cells r.cells.toArray 51)).alloc (Obj.cells #[.nilIface] 95));have B0:Below w.heap.size w W0:=by rw[aJ];exact ((U7 _ _).alloc (by simp) _).alloc (by simp;omega) _
 have kP:Bk W0 w.heap.size 95 [p.val]:=by rw[aJ];exact ((Bk.new w 95 [p.val]).alloc _).alloc _
 have kG:Bk W0 (w.heap.size+1) 51 r.cells:=by rw[aJ];exact (by simpa using Bk.new (w.alloc (Obj.cells #[p.val] 95)) 51 r.cells:Bk _ _ _ _).alloc _
 have kR:Bk W0 (w.heap.size+2) 95 [.nilIface]:=by rw[aJ];simpa using Bk.new ((w.alloc (Obj.cells #[p.val] 95)).alloc (Obj.cells r.cells.toArray 51)) 95 [.nilIface]
 obtain⟨id,⟨Ak,nk,ck⟩,⟨Au,nu,cu⟩⟩:=r;obtain⟨cO,ks,us⟩:=q;obtain⟨rfl,aB,hk,hu⟩:=hq;simp only at aB hk hu hks hus kG;have bH:=hk.ks;obtain⟨cP,cQ,ek⟩:=bH.form;obtain⟨cR,cS,eu⟩:=hu.1.form;injection ek with ek1 ek2 ek3;injection eu with eu1 eu2 eu3;subst ek1 ek2 ek3 eu1 eu2 eu3;have aQ:(Gw.cells ⟨id,⟨Ak,ks.length,ck⟩,⟨Au,us.length,cu⟩⟩).length=34:=Gw.len aB;obtain⟨R,hR⟩:=D9 (Sf p (id,ks,us));rw[←hR];have aR:W0.cell? ⟨w.heap.size+1,33,none⟩=some (.slice Au us.length cu):=kG.at_ (by rw[Gw.cells,List.getElem?_append_right (by simp[aB])];simp[aB,Sv.v]);have Fw:W0.cell? ⟨w.heap.size+1,32,none⟩=some (.slice Ak ks.length ck):=kG.at_ (by rw[Gw.cells,List.getElem?_append_right (by simp[aB])];simp[aB,Sv.v]);have bM:C4 W0 ⟨w.heap.size+1,0,none⟩ 32=some (c8 id):=by
  have:=kG.row (o:=0) (n:=32) (by rw[aQ];omega);rw[this];simp[Gw.cells,aB]
 obtain⟨m,hm⟩:=D9 (us.length);rw[←hm]at aR aQ kG aJ hu ⊢;have bN:=Lib.hid bH;have cB:=Lib.hid hu;have HM:=Lib.hid hm;clear hk hu bH hm;by_cases hm0:m=0
 ·have aC:R=.error 81:=by rw[hR];unfold Sf;rw[if_pos (List.eq_nil_of_length_eq_zero (by rw[←HM.out];exact hm0))]
  subst aC;have cC:((m:Int)==0)=true:=by rw[hm0];rfl
  have p0:W0.cell? ⟨w.heap.size,0,none⟩=some p.val:=kP.at_ rfl;have r0:W0.cell? ⟨w.heap.size+1+1,0,none⟩=some .nilIface:=kR.at_ rfl;have rf:=kR.frozen 0;rw[aJ]at aR p0 r0 rf;clear hR hm0;go_enter Tryz.func41,Tryz.ntmps41;go_wp2_with fail;have k2:=Bk.new ((w.alloc (Obj.cells #[p.val] 95)).alloc (Obj.cells (Gw.cells ⟨id,⟨Ak,ks.length,ck⟩,⟨Au,m,cu⟩⟩).toArray 51)) 95 [p.val];exact bodyPost_ret (C8 rfl (C5.row k2 (by simp) _ Tryz.underlying95 rfl (by kernel_rfl)) (C5.tmp rfl)) rfl ⟨p,81,rfl,rfl,((U7 _ _).alloc (by simp) _).alloc (by simp;omega) _⟩
 ·have cC:((m:Int)==0)=false:=by rw[beq_eq_false_iff_ne];omega
  have p0:W0.cell? ⟨w.heap.size,0,none⟩=some p.val:=kP.at_ rfl;have hus:us≠[]:=fun e=>hm0 (by rw[HM.out,e];rfl);have aC:R=(if (p.get id 0).2.2=0 then
  (if ((p.get id 0).2.1 != decide (0<ks.length))=true then .error 130
   else if (p.get id 0).2.1=true∧(p.get id 0).1≠W8 ks then .error 130
   else Dg id p us ks) else .error ((p.get id 0).2.2:Int)):=by rw[hR];unfold Sf;rw[if_neg hus]
  have HR:=Lib.hid aC;have cD:=aR;rw[aJ]at aR p0 bM;clear hR aC hm0 hus;go_enter Tryz.func41,Tryz.ntmps41;go_wp2_with fail;rw[←aJ];refine (C6h id aB p ok.wf ok.dp W0).mono ?_;rintro x w1 ⟨rfl,b1⟩;have aY:=Pt.get_length (k:=id) (d:=0) ok.wf;obtain⟨x,hx⟩:=D9 (p.get id 0);rw[←hx]at HR aY ⊢;clear hx;obtain⟨gv,aA,en⟩:=x;dsimp only[D7b]at aY ⊢;have aZ:Hid (R=(if en=0 then
  (if (aA != decide (0<ks.length))=true then .error 130
   else if aA=true∧gv≠W8 ks then .error 130
   else Dg id p us ks) else .error (en:Int))):=Lib.hid HR.out
  obtain⟨W,hW⟩:=D9 (w1.alloc (Obj.cells (c8 (z8 32)).toArray 40));have k9:=KN' hW;have bW:=BA' hW;obtain⟨V,hV⟩:=D9 (C2 W ⟨w1.heap.size,0,none⟩ (c8 gv));have aM:Bk V w1.heap.size 40 (c8 gv):=by rw[hV];exact Bk.put8 (n:=32) k9 (by simp) aY
  have bV:Below w1.heap.size w1 V:=by rw[hV];exact C0 bW (Nat.le_refl _) _
  have aS:=X4 b1 bV;have aN:=Bk.can8 (n:=32) k9 (by simp);rw[hW]at aN;clear HR k9 bW bV b1 p0 bM aR;have aG:=kP.bl aS;have aD:=kG.bl aS;have aO:=kR.bl aS;have BV:=X4 B0 aS;have p0:V.cell? ⟨w.heap.size,0,none⟩=some p.val:=aG.at_ rfl;have r0:V.cell? ⟨w.heap.size+1+1,0,none⟩=some .nilIface:=aO.at_ rfl;have rf:=aO.frozen 0;have done:∀(W:World) (q:Pt),Below V.heap.size V W→Bk (W.setCell ⟨w.heap.size+1+1,0,none⟩ q.val) (w.heap.size+1+1) 95 [q.val]∧Below w.heap.size w (W.setCell ⟨w.heap.size+1+1,0,none⟩ q.val):=fun W q hW=>⟨(aO.bl hW).set_ 0 q.val,(C3 BV hW BV.size).setCell (by simp;omega) _⟩;clear aS kP kG kR;by_cases he:en=0
  ·rw[if_pos he]at aZ;have bO:((en:Int) != 0)=false:=by rw[he];rfl
   clear he;have bA:V.cell? ⟨w.heap.size+1,32,none⟩=some (.slice Ak ks.length ck):=aD.at_ (by rw[Gw.cells,List.getElem?_append_right (by simp[aB])];simp[aB,Sv.v]);obtain⟨bb,aH⟩:∃bb:Bool,bb=((aA != decide (0<ks.length))||(aA&&decide (gv≠W8 ks))):=⟨_,rfl⟩;have bB:Hid (R=if bb=true then .error 130 else Dg id p us ks):=Lib.hid (by
    rw[aZ.out,aH];cases (aA != decide (0<ks.length))<;>cases aA<;>by_cases hg:gv=W8 ks<;>simp[hg])
   have bI:=hV.trans (by rw[hW]);rw[bI]at p0 r0 rf bA;clear aZ aN;go_wp2_with fail;rw[←bI]at p0 r0 rf bA ⊢;clear hV bI hW;refine Wp [30,31,32,33,34,35,36,37,38,39,40,41,42,43,44,45,46] (fun f W=>f 30=.bool bb∧Below V.heap.size V W) ?_ ?_
   ·have bP:∀a b:Bool,(a==b) = !(a != b):=by decide
    clear bB done aG aO r0 rf p0;cases hA:(aA != decide (0<ks.length)) with
    | true=>
     have bQ:(aA==decide (0<ks.length))=false:=by rw[bP,hA];rfl
     rw[hA]at aH;rw[aH];clear aH;go_quiet (fail);exact ⟨rfl,by kernel_rfl,rfl,P7 (Below.refl _ _) _⟩
    | false=>
     have bQ:(aA==decide (0<ks.length))=true:=by rw[bP,hA];rfl
     cases aA with
     | false=>
      rw[hA]at aH;rw[aH];clear aH;go_quiet (fail);exact ⟨rfl,by kernel_rfl,rfl,P7 (Below.refl _ _) _⟩
     | true=>
      have cE:0<ks.length:=by simpa using bQ
      have cT:=decide_eq_true cE;have S1:=Nq V;have HV:=Lib.hid (((bN.out.up BV).up S1));refine Ij (fun W=>Bk W (w.heap.size+1) 51 (Gw.cells ⟨id,⟨Ak,ks.length,ck⟩,⟨Au,m,cu⟩⟩)∧Bk W w1.heap.size 40 (c8 gv)) ?_;refine Cn (A:=?cU) [0,1,2,3,4,5,6,7,8,9,10,11] ⟨aD.drew,aM.drew⟩ (fun W hW=>?cF) ?cV;case cF=>have f1:W.cell? ⟨w.heap.size+1,32,none⟩=some (.slice Ak ks.length ck):=hW.1.at_ (by rw[Gw.cells,List.getElem?_append_right (by simp[aB])];simp[aB,Sv.v]);have f2:=Bk.row8 (n:=32) hW.2 aY;exact Fa
      refine Q6 12 fun Q' hQ'=>?_;dsimp only[C6];have aE:=Lib.hid hQ';clear hQ';go_wp2_with fail;refine (Mw _ ks V.drew (HV.out.hs) (by omega)).mono ?_;rintro x V3 ⟨rfl,b3⟩;go_wp2_with fail;refine aE.out _ _ ⟨aD.drew.bl b3,aM.drew.bl b3⟩ ?_;clear aE;refine Q6 13 fun Q' hQ'=>?_;dsimp only[C6];have aE:=Lib.hid hQ';clear hQ';have cW:=U2 ks;go_wp2_with fail;have bR:(!(gv==W8 ks))=bb:=by
       rw[aH,hA];by_cases hg:gv=W8 ks<;>simp[hg]
      rw[bR];refine aE.out _ _ ⟨aD.drew.bl b3,aM.drew.bl b3⟩ ?_;clear aE aH bR;refine Q6 14 fun Q' hQ'=>?_;dsimp only[C6];go_wp2_with fail;refine hQ' _ _ ⟨aD.drew.bl b3,aM.drew.bl b3⟩ ?_;clear hQ';refine Q6 15 fun Q' hQ'=>?_;dsimp only[C6];go_wp2_with fail;refine hQ' _ _ ⟨aD.drew.bl b3,aM.drew.bl b3⟩ ?_;clear hQ';refine Q6 16 fun Q' hQ'=>?_;dsimp only[C6];go_wp2_with fail;refine hQ' _ _ ⟨aD.drew.bl b3,aM.drew.bl b3⟩ ?_;clear hQ';refine Gn ?_;exact ⟨rfl,by kernel_rfl,rfl,C3 S1 b3 S1.size⟩
   ·rintro f V2 ⟨bS,b2⟩;dsimp only[C0e,List.foldl];simp only[Nv];rw[bS];clear bS aM r0 rf p0 bA aH Fw;have cX:=aG.bl b2;have bT:=aD.bl b2;have cY:=aO.bl b2;have aT:∀W,Below V.heap.size V W→W.cell? ⟨w.heap.size,0,none⟩=some p.val∧W.cell? ⟨w.heap.size+1+1,0,none⟩=some .nilIface∧W.frozen? ⟨w.heap.size+1+1,0,none⟩=false:=fun W hW=>⟨(aG.bl hW).at_ rfl,(aO.bl hW).at_ rfl,(aO.bl hW).frozen 0⟩;cases bb with
    | true=>
     have aC:R=.error 130:=by rw[bB.out,if_pos rfl]
     subst aC;obtain⟨p0,r0,rf⟩:=aT V2 b2;go_wp2_with fail;exact bodyPost_ret (C8 rfl (C5.row (done _ p b2).1 rfl _ Tryz.underlying95 rfl (by kernel_rfl)) (C5.tmp rfl)) rfl ⟨p,_,rfl,rfl,(done _ p b2).2⟩
    | false=>
     have cG:Hid (R=Dg id p us ks):=Lib.hid (by rw[bB.out];simp);have bA:V2.cell? ⟨w.heap.size+1,32,none⟩=some (.slice Ak ks.length ck):=bT.at_ (by rw[Gw.cells,List.getElem?_append_right (by simp[aB])];simp[aB,Sv.v]);have cD:V2.cell? ⟨w.heap.size+1,33,none⟩=some (.slice Au m cu):=bT.at_ (by rw[Gw.cells,List.getElem?_append_right (by simp[aB])];simp[aB,Sv.v]);clear bB;go_wp2_with fail;go_loopw [9,53] (fun kv jv wr=>∃(u1 u2:List UV) (k':List (List UInt8)),jv=.int .i64 (u1.length:Int)∧us=u1++u2∧KS wr kv k'∧k'.length≤65536∧Below V.heap.size V wr∧Hid (R=Dg id p u2 k')) (fun _ jv _=>us.length-(intOf jv).toNat)
     case atStart=>exact ⟨[],us,ks,rfl,rfl,bN.out.up (C3 BV b2 BV.size),hks,b2,cG⟩
     case round=>
      obtain⟨u1,u2,k',rfl,aK,hK,cZ,b3,bC⟩:=hrel;have aU:m=us.length:=HM.out;obtain⟨p0,r0,rf⟩:=aT wr b3;have bU:=aD.bl b3;have dC:C4 wr ⟨w.heap.size+1,0,none⟩ 32=some (c8 id):=by
       have:=bU.row (o:=0) (n:=32) (by rw[aQ];omega);rw[this];simp[Gw.cells,aB]
      cases u2 with
      | nil=>
       have cH:decide (u1.length<m)=false:=decide_eq_false (by rw[aU,aK];simp);have aC:R=match p.put id (W8 k') 256 0 with | some q=>.ok q | none=>.error 100:=by rw[bC.out];unfold Dg;rfl
       have cI:=Lib.hid aC;have bJ:=Lib.hid hK;have HS:=Lib.hid aK;clear aC hK aK aU bC p0 r0 rf;go_wp2_with fail;have S1:=Nq wr;have bX:=Lib.hid ((bJ.out.up S1).hs);have b31:=X4 b3 S1;clear S1;refine Ij (fun W=>Bk W w.heap.size 95 [p.val]∧Bk W (w.heap.size+1) 51 (Gw.cells ⟨id,⟨Ak,ks.length,ck⟩,⟨Au,m,cu⟩⟩)) ?_;refine Cn (A:=?dD) [0,1,2,3] ⟨aG.bl b31,aD.bl b31⟩ (fun W hW=>?cJ) ?dF;case cJ=>
        have f1:W.cell? ⟨w.heap.size,0,none⟩=some p.val:=hW.1.at_ rfl;have f2:C4 W ⟨w.heap.size+1,0,none⟩ 32=some (c8 id):=by have:=hW.2.row (o:=0) (n:=32) (by rw[aQ];omega);rw[this];simp[Gw.cells,aB]
        exact Fa
       refine Q6 4 fun Q' hQ'=>?_;dsimp only[C6];have aE:=Lib.hid hQ';clear hQ';go_wp2_with fail;refine (Mw _ k' wr.drew bX.out (by omega)).mono ?_;rintro x w5 ⟨rfl,b5⟩;have aL:=X4 b31 b5;clear b5 bX;go_wp2_with fail;refine aE.out _ _ ⟨aG.bl aL,aD.bl aL⟩ ?_;clear aE;refine Q6 5 fun Q' hQ'=>?_;dsimp only[C6];have aE:=Lib.hid hQ';clear hQ';go_wp2_with fail;refine (C9y p id (W8 k') aB (U2 _) (Eg []) ok w5).mono ?_;rintro x w6 ⟨q,dG,rfl,aI,b6⟩;have aF:=X4 aL b6;have cK:=Lib.hid aI;clear b6 aI;go_wp2_with fail;refine aE.out _ _ ⟨aG.bl aF,aD.bl aF⟩ ?_;clear aE;refine Cn (A:=?dI) [6,7] ⟨aG.bl aF,aD.bl aF⟩ (fun W hW=>?cL) ?dJ;case cL=>
        exact Fa
       refine Q6 8 fun Q' hQ'=>?_;dsimp only[C6];obtain⟨p0,r0,rf⟩:=aT w6 aF;go_wp2_with fail;refine hQ' _ _ ⟨(aG.bl aF).far (by simp;omega) _,(aD.bl aF).far (by simp) _⟩ ?_;clear hQ';refine Q6 9 fun Q' hQ'=>?_;dsimp only[C6];go_wp2_with fail;refine hQ' _ _ ⟨(aG.bl aF).far (by simp;omega) _,(aD.bl aF).far (by simp) _⟩ ?_;clear hQ';refine Gn ?_;go_wp2_with fail;refine bodyPost_ret (C8 rfl (C5.row (done w6 q aF).1 rfl _ Tryz.underlying95 rfl (by kernel_rfl)) (C5.tmp rfl)) rfl ⟨q,_,rfl,?_,(done w6 q aF).2⟩;rw[cI.out];have aI:=cK.out;unfold Rm at aI;cases hq:p.put id (W8 k') 256 0 with
       | none=>rw[hq]at aI;exact aI.2
       | some y=>rw[hq]at aI;exact ⟨aI.1.symm,aI.2⟩
      | cons u u3=>
       have cH:decide (u1.length<m)=true:=decide_eq_true (by rw[aU,aK];simp);have dK:u1.length<m:=by rw[aU,aK];simp
       obtain⟨gu,rfl,dL,dM,bD⟩:=UsK.row (cB.out.up (C3 BV b3 BV.size)) (i:=u1.length) (u:=u) (by rw[aK];simp);have bY:=bD.len;have dO:=bD.id;have bJ:=Lib.hid hK;have bE:Hid (R=if u.id=id then (if Bp k' u=0 then Dg id p u3 (Dd k' u) else .error (Bp k' u)) else .error 110):=Lib.hid (by rw[bC.out,Tz]);have HS:=Lib.hid aK;obtain⟨w4,aV⟩:=D9 (C2 (wr.alloc (Obj.cells (N9 (Gk 129)).toArray 69)) ⟨wr.heap.size,0,none⟩ (N9 u));have aN:=(Bk.new wr 69 (N9 (Gk 129))).canvc (n:=129) (Ci _).len;have ku:Bk w4 wr.heap.size 69 (N9 u):=by rw[aV];exact (Bk.new wr 69 (N9 (Gk 129))).putvc (n:=129) (Ci _).len bY
       have b4:Below wr.heap.size wr w4:=by rw[aV];exact C0 (U7 _ _) (Nat.le_refl _) _
       have bK:=UV.loadid ku bD;have aW:=Bk.rowvc (n:=129) ku bY;have bL:C4 w4 ⟨w.heap.size+1,0,none⟩ 32=some (c8 id):=by have:=(bU.bl b4).row (o:=0) (n:=32) (by rw[aQ];omega);rw[this];simp[Gw.cells,aB]
       have bF:=X4 b3 b4;obtain⟨p0,r0,rf⟩:=aT w4 bF;rw[aV]at bK aW bL p0 r0 rf;clear hK aK bC aU;by_cases hid:u.id=id
       ·have cM:(u.id==id)=true:=by rw[hid,beq_self_eq_true]
        have cN:=Lib.hid (bJ.out.up b4);have bZ:Hid (R=if Bp k' u=0 then Dg id p u3 (Dd k' u) else .error (Bp k' u)):=Lib.hid (by rw[bE.out,if_pos hid]);clear hid bE;go_wp2_with fail;rw[←aV];refine (Wk _ k' u bD w4 cN.out (by omega)).mono ?_;rintro x w5 ⟨r,rfl,aP,b5⟩;have aL:=X4 bF b5;obtain⟨en,bG⟩:=D9 (Bp k' u);have aX:Hid (R=if en=0 then Dg id p u3 (Dd k' u) else .error en):=Lib.hid (by rw[bZ.out,bG]);have HE:=Lib.hid bG;obtain⟨p0,r0,rf⟩:=aT w5 aL;rw[←bG];clear bZ bG;by_cases h0:en=0
        ·rw[if_pos h0]at aX;subst h0;obtain⟨dQ,cA⟩:=D1o HE.out.symm;have HO:=Lib.hid (aP.ks0 (by rw[cA];simp));clear cA aP;go_wp2_with fail;go_roundw;case rel=>exact ⟨u1++[u],u3,Dd k' u,by rw[Ry (by have:=HM.out;omega)];simp,by rw[HS.out];simp,HO.out,by omega,aL,aX⟩
         case measure=>have dS:=HM.out;rw[Ry (by omega)];simp only[intOf];omega
        ·rw[if_neg h0]at aX;have aC:=aX.out;subst aC;have bO:(en != 0)=true:=by rw[bne_iff_ne];exact h0
         clear h0 aX aP;go_wp2_with fail;exact bodyPost_ret (C8 rfl (C5.row (done _ p aL).1 rfl _ Tryz.underlying95 rfl (by kernel_rfl)) (C5.tmp rfl)) rfl ⟨p,_,rfl,rfl,(done _ p aL).2⟩
       ·have cM:=beq_eq_false_iff_ne.2 hid;have aC:R=.error 110:=by rw[bE.out,if_neg hid]
        subst aC;clear hid bE;go_wp2_with fail;rw[←aV];exact bodyPost_ret (C8 rfl (C5.row (done _ p bF).1 rfl _ Tryz.underlying95 rfl (by kernel_rfl)) (C5.tmp rfl)) rfl ⟨p,_,rfl,rfl,(done _ p bF).2⟩
  ·have aC:R=.error (en:Int):=by rw[aZ.out,if_neg he]
   subst aC;have bO:((en:Int) != 0)=true:=by rw[bne_iff_ne];omega
   clear he;rw[hV,hW]at p0 r0 rf;go_wp2_with fail;rw[←hW,←hV];exact bodyPost_ret (C8 rfl (C5.row (done V p (Below.refl _ _)).1 rfl _ Tryz.underlying95 rfl (by kernel_rfl)) (C5.tmp rfl)) rfl ⟨p,_,rfl,rfl,(done V p (Below.refl _ _)).2⟩
section
theorem By.ofRow {w:World} {g o:Nat} {l:List UInt8} (h:C4 w ⟨g,o,none⟩ 32=some (c8 l)) (hg:g<w.heap.size) (hl:l.length=32):By w 0 w.heap.size (.slice (some ⟨g,o,none⟩) 32 32) l:=by
 have:=By.mk_ (w:=w) (lo:=0) (B:=w.heap.size) (A:=some ⟨g,o,none⟩) (c:=32) (l:=l) (by omega) (by decide) (.inr ⟨g,o,rfl,Nat.zero_le _,hg,(T5.1 h).2⟩);rwa [hl]at this
section
variable {w w' : World}
theorem B1y.up {r:Gw} {q:Gr} (h:B1y w r q) (hb:Below w.heap.size w w'):B1y w' r q:=⟨h.1,h.2.1,h.2.2.1.up hb,h.2.2.2.up hb⟩
theorem GosAre.at_:∀ {R:List Gw} {L:List Gr},GosAre w R L→∀ {i:Nat} {q:Gr},L[i]?=some q→∃r,B1y w r q∧((R.flatMap Gw.cells).drop (i*34)).take 34=r.cells
 | [],[],_,i,q,h=>by simp at h
 | r::R,q::L,h,0,q',e=>by
  simp at e;subst e;have hl:=Gw.len (r:=r) (by rw[h.1.1];exact h.1.2.1);exact ⟨r,h.1,by simp[hl]⟩
 | r::R,q::L,h,i+1,q',e=>by
  have hl:=Gw.len (r:=r) (by rw[h.1.1];exact h.1.2.1);obtain⟨r',h1,h2⟩:=GosAre.at_ h.2 (i:=i) (q:=q') (by simpa using e);refine ⟨r',h1,?_⟩;rw[List.flatMap_cons,show (i+1)*34=r.cells.length+i*34 by omega,List.drop_length_add_append];exact h2
 | [],_::_,h,_,_,_=>h.elim
 | _::_,[],h,_,_,_=>h.elim
theorem Xd.up {v:Value} {gs:List Gr} (h:Xd w v gs) (hb:Below w.heap.size w w'):Xd w' v gs:=by
 obtain⟨R,h1,h2⟩:=h;exact ⟨R,h1.map (fun x=>x.up hb) (fun x=>x.up hb),J7 h2 hb (Nat.le_refl _)⟩
theorem Xd.form {v:Value} {gs:List Gr} (h:Xd w v gs):∃A c,v=.slice A gs.length c∧gs.length≤9223372036854775807:=by
 obtain⟨R,h1,h2⟩:=h;obtain⟨A,c,e,h3,h4⟩:=F8 h2;exact ⟨A,c,e,Nat.le_trans h3 h4⟩
theorem Xd.row {A:Option Addr} {n c:Nat} {gs:List Gr} (h:Xd w (.slice A n c) gs) {i:Nat} {q:Gr} (hq:gs[i]?=some q):∃b r,A=some ⟨b,0,none⟩∧b<w.heap.size∧B1y w r q∧C4 w ⟨b,i*34,none⟩ 34=some r.cells:=by
 obtain⟨R,h1,h2⟩:=h;obtain⟨r,h3,h4⟩:=h1.at_ hq;have hi:i<gs.length:=(List.getElem?_eq_some_iff.1 hq).1;have hl:=h1.cells;rcases h2.2 with ⟨_,hn⟩ | ⟨b,cap,cur,e,hbg,hh,_⟩
 ·omega
 ·injection e with e1 e2 e3;subst e1 e3;refine ⟨b,r,rfl,(Array.getElem?_eq_some_iff.1 hh).1,h3,T5.2 ⟨Gw.len (by rw[h3.1];exact h3.2.1),fun j u hj=>?_⟩⟩;have aA:j<34:=by have:=(List.getElem?_eq_some_iff.1 hj).1;rw[Gw.len (by rw[h3.1];exact h3.2.1)]at this;exact this
  have:=h2.cells (g:=b) rfl (i*34+j) u (by rw[←hj,←h4];simp only[List.getElem?_take,List.getElem?_drop,if_pos aA]);rwa [P9,Nat.zero_add]at this
end
theorem Gw.rowid {W:World} {g o:Nat} {r:Gw} (h:C4 W ⟨g,o,none⟩ 34=some r.cells) (hr:r.id.length=32):C4 W ⟨g,o,none⟩ 32=some (c8 r.id):=by
 have h2:=T5.1 h;refine T5.2 ⟨by simp[hr],fun j u hj=>h2.2 j u ?_⟩;have:j<32:=by have:=(List.getElem?_eq_some_iff.1 hj).1;simpa [hr] using this
 rw[Gw.cells,List.getElem?_append_left (by simp[hr];omega)];exact hj
theorem C4q {i n:Nat} (h:i<n):n-(intOf (.int .i64 ((i:Int)+1))).toNat<n-(intOf (.int .i64 (i:Int))).toNat:=by
 simp only[intOf];omega
theorem C5e {j:Nat} (h:j<9223372036854775807):wrap64 (j:Int)=(j:Int):=by unfold wrap64;omega
theorem C4e {j:Nat} (h:j<9223372036854775807):wrap64 ((j:Int)+1)=(j:Int)+1:=by unfold wrap64;omega
theorem Uh (a b:List UInt8) (ha:a.length=32) (hb:b.length=32) (v:Value) (l:List UInt8) (w:World) (hv:By w 0 w.heap.size v l) (hn:l.length≤1099511627776) :
 Calls Tryz.prog 11 #[A8 a,A8 b,v] w fun x w'=>x=.returned (.int .i64 (A4j a b l))∧Below w.heap.size w w':=by
 obtain⟨R,hR⟩:=D9 (A4j a b l);rw[←hR];have HR:=Lib.hid hR;clear hR;obtain⟨W0,aI⟩:=D9 ((w.alloc (Obj.cells (c8 a).toArray 40)).alloc (Obj.cells (c8 b).toArray 40));have B0:Below w.heap.size w W0:=by rw[aI];exact (U7 _ _).alloc (by simp) _
 have kA:Bk W0 w.heap.size 40 (c8 a):=by rw[aI];exact (Bk.new w 40 (c8 a)).alloc _
 have kB:Bk W0 (w.heap.size+1) 40 (c8 b):=by rw[aI];simpa using Bk.new (w.alloc (Obj.cells (c8 a).toArray 40)) 40 (c8 b)
 go_enter Tryz.func11,Tryz.ntmps11;go_wp2_with fail;rw[←aI];refine (A3m v l W0 (hv.up B0) hn).mono ?_;rintro x w1 ⟨p,gv,e,rfl,hp,b1⟩;obtain⟨W1,aE⟩:=D9 (w1.alloc (Obj.cells #[p.val] 95));have bb:=BA' aE;have b2:=X4 b1 bb;have B1:=X4 B0 b2;have aX:=kA.bl b2;have bM:=kB.bl b2;have aR:=KN' aE;have HP:=Lib.hid hp;have cH:w.heap.size+2≤w1.heap.size:=by have:=b1.size;rw[aI]at this;simpa using this
 clear hp b1 kA kB B0 aI b2 hn;obtain⟨pa,bN⟩:=D9 (Dt l);have HA:=Lib.hid bN;clear bN;cases pa with
 | error e'=>
  have hp:=HP.out;rw[←HA.out]at hp;obtain⟨rfl,rfl,rfl⟩:=hp;have bO:=A7j HA.out.symm;have cI:(e != 0)=true:=by rw[bne_iff_ne];exact bO
  have hr:=HR.out;unfold A4j at hr;rw[←HA.out]at hr;dsimp only at hr;subst hr;clear HR HP HA bO;go_wp2_with fail;go_ret;exact ⟨rfl,by rw[←aE];exact B1⟩
 | ok r=>
  obtain⟨p',gs⟩:=r;have hp:=HP.out;rw[←HA.out]at hp;obtain⟨rfl,rfl,aY⟩:=hp;obtain⟨aZ,bP⟩:=C4n HA.out.symm;have aJ:=Pt.root_length aZ.wf;have bQ:Hid (R=if p.root≠a then 130 else match Hw p none gs with | .error e=>e | .ok p=>if p.root≠b then 130 else 0):=Lib.hid (by rw[HR.out];unfold A4j;rw[←HA.out] <;> rfl);have HG:=Lib.hid (aY.up bb);obtain⟨Ag,cg,rfl,bA⟩:=aY.form;obtain⟨n,hn⟩:=D9 (gs.length);rw[←hn]at bA;have bR:=Lib.hid bA;clear bA;have HN:=Lib.hid hn;rw[←hn]at HG ⊢;clear HR HP HA aY hn;have p0:=aR.at_ (i:=0) rfl;rw[aE]at p0;go_wp2_with fail;rw[←aE];rw[←aE]at p0;clear aE p0;have S1:=Nq W1;refine Ij (fun W=>Bk W w1.heap.size 95 [p.val]∧Bk W w.heap.size 40 (c8 a)) ?_;refine Cn (A:=?dI) [0,2] ⟨aR.drew,aX.drew⟩ (fun W hW=>?cJ) ?dJ;case cJ=>
   have f1:W.cell? ⟨w1.heap.size,0,none⟩=some p.val:=hW.1.at_ rfl;have f2:=Bk.row8 (n:=32) hW.2 ha;exact Fa
  refine Q6 1 fun Q' hQ'=>?_;dsimp only[C6];have aK:=Lib.hid hQ';clear hQ';go_wp2_with fail;refine (A1u p aZ.wf W1.drew).mono ?_;rintro x w2 ⟨rfl,b2⟩;have b3:=X4 S1 b2;have bS:=aX.bl b3;have cK:=bM.bl b3;have bB:=aR.bl b3;have B2:=X4 B1 b3;have cL:=Lib.hid (HG.out.up b3);clear b2 b3 S1 aX bM aR B1 HG;go_wp2_with fail;refine aK.out _ _ ⟨bB,bS⟩ ?_;clear aK;refine Q6 3 fun Q' hQ'=>?_;dsimp only[C6];obtain⟨bb,aF⟩:=D9 ((!(p.root==a)));go_wp2_with fail;rw[←aF];refine hQ' _ _ ⟨bB,bS⟩ ?_;clear hQ';refine Gn ?_;have bC:Hid (R=if bb=true then 130 else match Hw p none gs with | .error e=>e | .ok p=>if p.root≠b then 130 else 0):=Lib.hid (by
   rw[bQ.out,aF];by_cases hra:p.root=a<;>simp[hra])
  clear aF bQ;cases bb with
  | true=>
   have hr:=bC.out;rw[if_pos rfl]at hr;subst hr;go_wp2_with fail;go_ret;exact ⟨rfl,B2⟩
  | false=>
   have cM:Hid (R=match Hw p none gs with | .error e=>e | .ok p=>if p.root≠b then 130 else 0):=Lib.hid (by rw[bC.out];simp);clear bC aJ;go_wp2_with fail;go_loopw [27] (fun jv wr=>∃(g1 g2:List Gr) (pc:Pt),jv=.int .i64 (g1.length:Int)∧gs=g1++g2∧pc.Ok 0 (Eg [])∧Bk wr w1.heap.size 95 [pc.val]∧Bk wr (w.heap.size+1) 40 (c8 b)∧Below w.heap.size w wr∧Xd wr (.slice Ag n cg) gs∧Hid (R=match Hw pc (g1.getLast?.map (·.1)) g2 with | .error e=>e | .ok p=>if p.root≠b then 130 else 0)) (fun jv _=>n-(intOf jv).toNat)
   case atStart=>exact ⟨[],gs,p,rfl,rfl,aZ,bB,cK,B2,cL.out,cM⟩
   case round=>
    obtain⟨g1,g2,pc,rfl,aC,aS,kP,kB,BW,hG,aL⟩:=hrel;have aM:n=gs.length:=HN.out;cases g2 with
    | nil=>
     have cN:decide (g1.length<n)=false:=decide_eq_false (by rw[aM,aC];simp);have bT:Hid (R=if pc.root≠b then 130 else 0):=Lib.hid (by rw[aL.out];rfl);have aJ:=Pt.root_length aS.wf;clear aL aM aC hG;go_wp2_with fail;have S1:=Nq wr;refine Ij (fun W=>Bk W w1.heap.size 95 [pc.val]∧Bk W (w.heap.size+1) 40 (c8 b)) ?_;refine Cn (A:=?dK) [0,2] ⟨kP.drew,kB.drew⟩ (fun W hW=>?cO) ?dL;case cO=>have f1:W.cell? ⟨w1.heap.size,0,none⟩=some pc.val:=hW.1.at_ rfl;have f2:=Bk.row8 (n:=32) hW.2 hb;exact Fa
     refine Q6 1 fun Q' hQ'=>?_;dsimp only[C6];have aK:=Lib.hid hQ';clear hQ';go_wp2_with fail;refine (A1u pc aS.wf wr.drew).mono ?_;rintro x w5 ⟨rfl,b5⟩;have b6:=X4 S1 b5;have BF:=X4 BW b6;go_wp2_with fail;refine aK.out _ _ ⟨kP.bl b6,kB.bl b6⟩ ?_;clear aK;refine Q6 3 fun Q' hQ'=>?_;dsimp only[C6];obtain⟨bb,aF⟩:=D9 ((!(pc.root==b)));go_wp2_with fail;rw[←aF];refine hQ' _ _ ⟨kP.bl b6,kB.bl b6⟩ ?_;clear hQ';refine Gn ?_;have hr:R=if bb=true then 130 else 0:=by
      rw[bT.out,aF];by_cases hra:pc.root=b<;>simp[hra]
     clear aF bT;cases bb with
     | true=>
      rw[if_pos rfl]at hr;subst hr;go_wp2_with fail;go_ret;exact ⟨rfl,BF⟩
     | false=>
      rw[if_neg (by simp)]at hr;subst hr;go_wp2_with fail;go_ret;exact ⟨rfl,BF⟩
    | cons q g3=>
     have cN:decide (g1.length<n)=true:=decide_eq_true (by rw[aM,aC];simp);have bD:g1.length<n:=by rw[aM,aC];simp
     obtain⟨b2,r,rfl,cP,aG,bE⟩:=hG.row (i:=g1.length) (q:=q) (by rw[aC];simp);have aJ:=Gw.len (r:=r) (by rw[aG.1];exact aG.2.1);have bU:r.id.length=32:=by rw[aG.1];exact aG.2.1
     have bX:=bP q (by rw[aC];simp);have bY:=Lib.hid aG.1;have HS:=Lib.hid aC;have bF:=Lib.hid aG;have bZ:=Lib.hid hG;have bG:F9 (wr.alloc (Obj.cells Ux.cells.toArray 51)) ⟨wr.heap.size,0,none⟩ 34=true:=(Bk.new wr _ _).can (by rw[Gw.len (by simp[Ux])];omega);obtain⟨W3,aT⟩:=D9 (C2 (wr.alloc (Obj.cells Ux.cells.toArray 51)) ⟨wr.heap.size,0,none⟩ r.cells);have kg:Bk W3 wr.heap.size 51 r.cells:=by rw[aT];exact (Bk.new wr _ _).puts (by rw[aJ,Gw.len (by simp[Ux])])
     have b3:Below wr.heap.size wr W3:=by rw[aT];exact C0 (U7 _ _) (Nat.le_refl _) _
     have cA:=Nat.lt_of_lt_of_le cP b3.size;have aU:=hG.up b3;clear aM aC aG hG;go_wp2_with fail;rw[←aT];clear bG bE aT;refine Wp [32,33,34,35,36,37,38,39,40,41,42,43,44,45] (fun f W=>f 45=.bool (A2d (g1.getLast?.map (·.1)) q.1)∧Below W3.heap.size W3 W) ?_ ?_
     ·clear aL kP kB BW bZ bF;rcases List.eq_nil_or_concat g1 with rfl | ⟨g0,q0,rfl⟩
      ·have cQ:decide ((0:Int)<((([]:List Gr).length:Nat):Int))=false:=rfl;have bH:decide (0<([]:List Gr).length)=false:=rfl;go_quiet (fail);exact ⟨rfl,by kernel_rfl,rfl,P7 (Below.refl _ _) _⟩
      ·rw[List.concat_eq_append]at *;obtain⟨j,hj⟩:=D9 (g0.length);have bI:(g0++[q0]).length=j+1:=by rw[hj];simp
       obtain⟨b4,r0,e4,dM,aA,aD⟩:=aU.row (i:=j) (q:=q0) (by rw[HS.out,hj];simp);injection e4 with e4;injection e4 with e4;subst e4;have cB:r0.id.length=32:=by rw[aA.1];exact aA.2.1
       have hx:=Lib.hid (By.ofRow (Gw.rowid aD cB) cA cB);have hy:=Lib.hid (By.ofRow (Gw.rowid (by have:=kg.rows;rwa [aJ]at this) bU) kg.lt bU);have cQ:=decide_eq_true (Int.natCast_pos.2 (Nat.succ_pos j));have bH:=decide_eq_true (Nat.succ_pos j);have cR:j<n:=Nat.lt_of_succ_lt (by have h:=bD;rw[bI]at h;exact h);have cS:=C5e (Nat.lt_of_lt_of_le cR bR.out);have aH:A2d ((g0++[q0]).getLast?.map (·.1)) q.1=decide (0≤Lib.compareBytes r0.id r.id):=by rw[List.getLast?_concat,aA.1,bY.out];rfl
       obtain⟨cv,bJ⟩:=D9 (Lib.compareBytes r0.id r.id);have HC:=Lib.hid bJ;rw[bI,aH,←bJ];clear bJ;clear aH bI hj aD aA aU bP bY HS HN;have S1:=Nq W3;have cT:=Lib.hid (hx.out.up S1);have cU:=Lib.hid (hy.out.up S1);refine Ij (fun _=>True) ?_;refine Cn (A:=?dO) [0,1,2,3,4,5,6,7,8,9,10] trivial (fun W hW=>?cV) ?dQ;case cV=>
        exact Fa
       refine Q6 11 fun Q' hQ'=>?_;dsimp only[C6];go_wp2_with fail;refine (Vh _ _ r0.id r.id W3.drew cT.out cU.out).mono ?_;rintro x w5 ⟨rfl,cC⟩;rw[cC,←HC.out];clear cC;go_wp2_with fail;refine hQ' _ _ trivial ?_;clear hQ';refine Cn (A:=?dS) [12,13] trivial (fun W hW=>?cW) ?dT;case cW=>
        simp only[List.append_eq,Nw,pick,Se];repeat (go_big_quiet_step (fail))
        refine wpQuiet_nil ?_;rfl
       refine Gn ?_;exact ⟨rfl,by kernel_rfl,rfl,S1⟩
     ·rintro f W4 ⟨cD,b4⟩;dsimp only[C0e,List.foldl];simp only[Nv];rw[cD];obtain⟨lb,aH⟩:=D9 (A2d (g1.getLast?.map (·.1)) q.1);rw[←aH];have HL:=Lib.hid aH;have aN:=X4 b3 b4;have cE:=kP.bl aN;have cX:=kB.bl aN;have cY:=kg.bl b4;have cF:=X4 BW aN;have cZ:=Lib.hid (aU.up b4);have aO:=Lib.hid (bF.out.up aN);have bK:Hid (R=if lb=true then 81 else match Sf pc q with | .error e=>e | .ok p'=>match Hw p' (some q.1) g3 with | .error e=>e | .ok p=>if p.root≠b then 130 else 0):=Lib.hid (by
       rw[aL.out,aH,A2o];cases A2d (g1.getLast?.map (·.1)) q.1
       ·cases Sf pc q<;>rfl
       ·rfl)
      clear cD aH b3 b4 aN kP kB kg BW aU bZ bF aL cA;cases lb with
      | true=>
       have hr:=bK.out;rw[if_pos rfl]at hr;subst hr;go_wp2_with fail;go_ret;exact ⟨rfl,cF⟩
      | false=>
       have bL:Hid (R=match Sf pc q with | .error e=>e | .ok p'=>match Hw p' (some q.1) g3 with | .error e=>e | .ok p=>if p.root≠b then 130 else 0):=Lib.hid (by rw[bK.out];simp);have f1:W4.cell? ⟨w1.heap.size,0,none⟩=some pc.val:=cE.at_ rfl;have f2:C4 W4 ⟨wr.heap.size,0,none⟩ 34=some r.cells:=by have:=cY.rows;rwa [aJ]at this
       clear bK HL;go_wp2_with fail;refine (C7r pc r q W4 aS aO.out bX.1 bX.2).mono ?_;rintro x w5 ⟨q',e,rfl,aB,b5⟩;obtain⟨oa,aP⟩:=D9 (Sf pc q);have aV:=cE.bl b5;have dC:=X4 cF b5;have p5:=aV.at_ (i:=0) rfl;have dU:=aV.frozen 0;have aQ:Below w.heap.size w (w5.setCell ⟨w1.heap.size,0,none⟩ q'.val):=dC.setCell (p:=⟨w1.heap.size,0,none⟩) (by simp;omega) _;have aW:=bL.out;rw[←aP]at aB aW;cases oa with
       | error e'=>
        have he:e=e':=aB;subst he;have cI:(e != 0)=true:=by rw[bne_iff_ne];exact C0q aP.symm
        subst aW;clear aP bL aB;go_wp2_with fail;go_ret;exact ⟨rfl,aQ⟩
       | ok p'=>
        obtain⟨rfl,rfl⟩:=aB;have dD:=D6h aO.out.2.1 aS aP.symm;have dF:=Lib.hid ((cZ.out.up b5).grown (U0 w5 w1.heap.size 0 q'.val) (Gp aV) (by decide) (by decide) (by decide));have dG:=Lib.hid aW;have cG:=C4e (Nat.lt_of_lt_of_le bD bR.out);clear aP bL aW;go_wp2_with fail;go_roundw;case rel=>
         refine ⟨g1++[q],g3,q',by rw[cG,List.length_append];rfl,by rw[HS.out];simp,dD,aV.set_ 0 q'.val,(cX.bl b5).far (p:=⟨w1.heap.size,0,none⟩) (Nat.ne_of_lt cH) _,aQ,dF.out,?_⟩;rw[List.getLast?_concat];exact dG
        case measure=>rw[cG];exact C4q bD
end
end Go.Proofs.YtmllnpokbbabhaaGreat
