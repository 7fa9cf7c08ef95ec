/- A part of the proof of AuditTells. -/
import Derived.Outline
import Derived.Test.YtmllnpokbbabhaaGreatTax
set_option linter.unusedVariables false
set_option linter.unusedSimpArgs false
set_option maxRecDepth 100000
set_option maxHeartbeats 40000000
namespace Go.Proofs.YtmllnpokbbabhaaGreat
open Go Go.RowKit Sh
section
def Pt.Ok:Nat→(Nat→Bool)→Pt→Prop
 | _,_,.e=>True
 | d,P,.lf k v=>k.length=32∧v.length=32∧∀i,i<d→E3 k i=P i
 | d,P,.nd l r=>d<256∧l.Ok (d+1) (Jc P d false)∧r.Ok (d+1) (Jc P d true)
 | _,_,.hd h=>h.length=32
theorem Pt.Ok.wf:∀ {p:Pt} {d:Nat} {P:Nat→Bool},p.Ok d P→p.Wf
 | .e,_,_,_=>trivial
 | .lf _ _,_,_,h=>⟨h.1,h.2.1⟩
 | .nd _ _,_,_,h=>⟨h.2.1.wf,h.2.2.wf⟩
 | .hd _,_,_,h=>h
theorem Pt.Ok.dp:∀ {p:Pt} {d:Nat} {P:Nat→Bool},p.Ok d P→p.Dp d
 | .e,_,_,_=>trivial
 | .lf _ _,_,_,h=>trivial
 | .nd _ _,_,_,h=>⟨h.1,h.2.1.dp,h.2.2.dp⟩
 | .hd _,_,_,h=>trivial
def Pt.put (k v:List UInt8):Nat→Nat→Pt→Option Pt
 | _,_,.e=>some (.lf k v)
 | _,_,.hd _=>none
 | 0,_,.lf k' _=>if k'=k then some (.lf k v) else none
 | 0,_,.nd _ _=>none
 | f+1,d,.lf k' v'=>if k'=k then some (.lf k v) else
  if E3 k d then (Pt.put k v f (d+1) (if E3 k' d then .lf k' v' else .e)).map (.nd (if E3 k' d then .e else .lf k' v'))
  else (Pt.put k v f (d+1) (if E3 k' d then .e else .lf k' v')).map (fun x=>.nd x (if E3 k' d then .lf k' v' else .e))
 | f+1,d,.nd l r=>if E3 k d then (Pt.put k v f (d+1) r).map (.nd l) else (Pt.put k v f (d+1) l).map (fun x=>.nd x r)
def Xm (o:Option Pt) (q:Pt) (n:Int):Prop:=match o with | some x=>x=q∧n=0 | none=>n=100
theorem Zc (k v:List UInt8) (hk:k.length=32) (hv:v.length=32) (d:Nat) (w:World) (h:List UInt8) (hh:h.length=32):Calls Tryz.prog 135 #[(Pt.hd h).val,.int .i64 (d:Int),A8 k,A8 v] w fun e w'=>e=.returned (.tuple #[Pt.e.val,.int .i64 100])∧Below w.heap.size w w':=by
 obtain⟨W0,aA⟩:=D9 (((w.alloc (Obj.cells (c8 k).toArray 40)).alloc (Obj.cells (c8 v).toArray 40)).alloc (Obj.cells #[.nilIface,.nilIface] 222));have B0:Below w.heap.size w W0:=by rw[aA];exact ((U7 _ _).alloc (by simp) _).alloc (by simp;omega) _
 have z3:W0.heap.size=w.heap.size+1+1+1:=by rw[aA];simp
 obtain⟨W1,aC⟩:=D9 (C2 (W0.alloc (Obj.cells (c8 (z8 32)).toArray 212)) ⟨W0.heap.size,0,none⟩ (c8 h));have B1:Below w.heap.size w W1:=by rw[aC];exact C0 (B0.alloc B0.size _) (by exact B0.size) _
 have aB:F9 (W0.alloc (Obj.cells (c8 (z8 32)).toArray 212)) ⟨W0.heap.size,0,none⟩ 32=true:=(Bk.new W0 _ _).can (by simp);rw[z3,aA]at aB;dsimp only[Pt.val];go_enter Tryz.func135,Tryz.ntmps135;go_wp2_with fail;rw[←aA];rw[←z3,←aC];exact bodyPost_ret (C8 rfl (C5.tmp rfl) (C5.tmp rfl)) rfl ⟨rfl,B1⟩
section
variable (k v : List UInt8) (hk : k.length = 32) (hv : v.length = 32) (d : Nat) (w : World)
include hk hv
theorem B1o:Calls Tryz.prog 135 #[Pt.e.val,.int .i64 (d:Int),A8 k,A8 v] w fun e w'=>e=.returned (.tuple #[(Pt.lf k v).val,.int .i64 0])∧Below w.heap.size w w':=by
 obtain⟨W0,aA⟩:=D9 (((w.alloc (Obj.cells (c8 k).toArray 40)).alloc (Obj.cells (c8 v).toArray 40)).alloc (Obj.cells #[.nilIface,.nilIface] 222));have B0:Below w.heap.size w W0:=by rw[aA];exact ((U7 _ _).alloc (by simp) _).alloc (by simp;omega) _
 have K0:Bk W0 w.heap.size 40 (c8 k):=by rw[aA];exact ((Bk.new w _ _).alloc _).alloc _
 have V0:Bk W0 (w.heap.size+1) 40 (c8 v):=by rw[aA];exact (by simpa using Bk.new (w.alloc (Obj.cells (c8 k).toArray 40)) 40 (c8 v):Bk _ _ _ _).alloc _
 have rk:C4 W0 ⟨w.heap.size,0,none⟩ 32=some (c8 k):=by have:=K0.rows;rwa [C1,hk]at this
 have rv:C4 W0 ⟨w.heap.size+1,0,none⟩ 32=some (c8 v):=by have:=V0.rows;rwa [C1,hv]at this
 rw[aA]at rk rv;dsimp only[Pt.val];go_enter Tryz.func135,Tryz.ntmps135;go_wp2_with fail;rw[←aA];exact bodyPost_ret (C8 rfl (C5.tmp rfl) (C5.tmp rfl)) rfl ⟨rfl,B0⟩
theorem A7h (v':List UInt8) (hv':v'.length=32):Calls Tryz.prog 135 #[(Pt.lf k v').val,.int .i64 (d:Int),A8 k,A8 v] w fun e w'=>e=.returned (.tuple #[(Pt.lf k v).val,.int .i64 0])∧Below w.heap.size w w':=by
 obtain⟨W0,aA⟩:=D9 (((w.alloc (Obj.cells (c8 k).toArray 40)).alloc (Obj.cells (c8 v).toArray 40)).alloc (Obj.cells #[.nilIface,.nilIface] 222));have B0:Below w.heap.size w W0:=by rw[aA];exact ((U7 _ _).alloc (by simp) _).alloc (by simp;omega) _
 have K0:Bk W0 w.heap.size 40 (c8 k):=by rw[aA];exact ((Bk.new w _ _).alloc _).alloc _
 have V0:Bk W0 (w.heap.size+1) 40 (c8 v):=by rw[aA];exact (by simpa using Bk.new (w.alloc (Obj.cells (c8 k).toArray 40)) 40 (c8 v):Bk _ _ _ _).alloc _
 have z3:W0.heap.size=w.heap.size+1+1+1:=by rw[aA];simp
 have aC:(pb (k,v')).length=64:=Si.len ⟨hk,hv'⟩;obtain⟨W1,aB⟩:=D9 (C2 (W0.alloc (Obj.cells (c8 (z8 64)).toArray 216)) ⟨W0.heap.size,0,none⟩ (c8 (pb (k,v'))));have aD:Below W0.heap.size W0 W1:=by rw[aB];exact C0 (U7 _ _) (Nat.le_refl _) _
 have P1:Bk W1 W0.heap.size 216 (c8 (pb (k,v'))):=by rw[aB];exact Bk.fresh W0 _ (by simp[aC])
 have K1:=K0.bl aD;have V1:=V0.bl aD;have B1:=X4 B0 aD;have rk:C4 W1 ⟨w.heap.size,0,none⟩ 32=some (c8 k):=by have:=K1.rows;rwa [C1,hk]at this
 have rv:C4 W1 ⟨w.heap.size+1,0,none⟩ 32=some (c8 v):=by have:=V1.rows;rwa [C1,hv]at this
 have rp:=Hv P1 ⟨hk,hv'⟩;have aF:(k==k)=true:=by simp
 have aE:F9 (W0.alloc (Obj.cells (c8 (z8 64)).toArray 216)) ⟨W0.heap.size,0,none⟩ 64=true:=(Bk.new W0 _ _).can (by simp);rw[z3,aA]at aE;rw[aB,z3,aA]at rk rv rp;dsimp only[Pt.val];go_enter Tryz.func135,Tryz.ntmps135;go_wp2_with fail;rw[←aA,←z3,←aB];exact bodyPost_ret (C8 rfl (C5.tmp rfl) (C5.tmp rfl)) rfl ⟨rfl,B1⟩
end
theorem Pt.form:∀p:Pt,p.val=.nilIface∨∃t x,p.val=.iface t x
 | .e=>.inl rfl
 | .lf _ _=>.inr ⟨_,_,rfl⟩
 | .nd _ _=>.inr ⟨_,_,rfl⟩
 | .hd _=>.inr ⟨_,_,rfl⟩
theorem U9 {k:List UInt8} {d:Nat} {P:Nat→Bool} {b:Bool} (ha:∀i,i<d→E3 k i=P i) (hb:E3 k d=b):∀i,i<d+1→E3 k i=Jc P d b i:=by
 intro i hi;rcases Nat.lt_or_ge i d with h | h
 ·rw[Xq _ _ h,ha i h]
 ·obtain rfl:i=d:=by omega
  rw[A9y,hb]
theorem C8b (k v:List UInt8) (hk:k.length=32) (hv:v.length=32):∀(f d:Nat) (p:Pt) (P:Nat→Bool) (w:World),f+d=256→p.Ok d P→(∀i,i<d→E3 k i=P i)→
 Calls Tryz.prog 135 #[p.val,.int .i64 (d:Int),A8 k,A8 v] w fun e w'=>∃(q:Pt) (n:Int),e=.returned (.tuple #[q.val,.int .i64 n])∧Xm (p.put k v f d) q n∧Below w.heap.size w w':=by
 intro f;induction f with
 | zero=>
  intro d p P w cJ ok ha;cases p with
  | e=>exact (B1o k v hk hv d w).mono fun e w' ⟨h1,h2⟩=>⟨.lf k v,0,h1,⟨rfl,rfl⟩,h2⟩
  | hd h=>exact (Zc k v hk hv d w h ok).mono fun e w' ⟨h1,h2⟩=>⟨.e,100,h1,rfl,h2⟩
  | lf k' v'=>
   have e:k'=k:=Nf ok.1 hk fun i hi=>by rw[ok.2.2 i (by omega),ha i (by omega)]
   subst e;exact (A7h k' v ok.1 hv d w v' ok.2.1).mono fun e w' ⟨h1,h2⟩=>⟨.lf k' v,0,h1,by simp[Pt.put,Xm],h2⟩
  | nd l r=>exact absurd ok.1 (by omega)
 | succ f ih=>
  intro d p P w cJ ok ha;obtain⟨W0,aK⟩:=D9 (((w.alloc (Obj.cells (c8 k).toArray 40)).alloc (Obj.cells (c8 v).toArray 40)).alloc (Obj.cells #[.nilIface,.nilIface] 222));have B0:Below w.heap.size w W0:=by rw[aK];exact ((U7 _ _).alloc (by simp) _).alloc (by simp;omega) _
  have K0:Bk W0 w.heap.size 40 (c8 k):=by rw[aK];exact ((Bk.new w _ _).alloc _).alloc _
  have V0:Bk W0 (w.heap.size+1) 40 (c8 v):=by rw[aK];exact (by simpa using Bk.new (w.alloc (Obj.cells (c8 k).toArray 40)) 40 (c8 v):Bk _ _ _ _).alloc _
  have A0:Bk W0 (w.heap.size+1+1) 222 [.nilIface,.nilIface]:=by rw[aK];simpa using Bk.new ((w.alloc (Obj.cells (c8 k).toArray 40)).alloc (Obj.cells (c8 v).toArray 40)) 222 [.nilIface,.nilIface]
  have z3:W0.heap.size=w.heap.size+1+1+1:=by rw[aK];simp
  have hd:d<256:=by omega
  cases p with
  | e=>exact (B1o k v hk hv d w).mono fun e w' ⟨h1,h2⟩=>⟨.lf k v,0,h1,⟨rfl,rfl⟩,h2⟩
  | hd h=>exact (Zc k v hk hv d w h ok).mono fun e w' ⟨h1,h2⟩=>⟨.e,100,h1,rfl,h2⟩
  | nd l r=>
   obtain⟨W1,aH⟩:=D9 ((((w.alloc (Obj.cells (c8 k).toArray 40)).alloc (Obj.cells (c8 v).toArray 40)).alloc (Obj.cells #[l.val,r.val] 222)).alloc (Obj.cells #[l.val,r.val] 222));have AT:Bk W1 (w.heap.size+1+1) 222 [l.val,r.val]:=by rw[aH];exact (by simpa using Bk.new ((w.alloc (Obj.cells (c8 k).toArray 40)).alloc (Obj.cells (c8 v).toArray 40)) 222 [l.val,r.val]:Bk _ _ _ _).alloc _
   have KT:Bk W1 w.heap.size 40 (c8 k):=by rw[aH];exact (((Bk.new w _ _).alloc _).alloc _).alloc _
   have VT:Bk W1 (w.heap.size+1) 40 (c8 v):=by rw[aH];exact ((by simpa using Bk.new (w.alloc (Obj.cells (c8 k).toArray 40)) 40 (c8 v):Bk _ _ _ _).alloc _).alloc _
   have BT:Below w.heap.size w W1:=by rw[aH];exact (((U7 _ _).alloc (by simp) _).alloc (by simp;omega) _).alloc (by simp;omega) _
   have rk:C4 W1 ⟨w.heap.size,0,none⟩ 32=some (c8 k):=by have:=KT.rows;rwa [C1,hk]at this
   rw[aH]at rk;obtain⟨pp,aX⟩:=D9 (Pt.nd l r);have aC:pp.put k v (f+1) d=if E3 k d then (r.put k v f (d+1)).map (.nd l) else (l.put k v f (d+1)).map (fun x=>.nd x r):=by rw[aX];simp only[Pt.put]
   have aF:=Lib.hid aC;have bN:=ok.2.1;have bO:=ok.2.2;rw[←aX];have aE:pp.val=.iface 222 (.agg #[l.val,r.val]):=by rw[aX];rfl
   rw[aE];clear aC aE aX ok;go_enter Tryz.func135,Tryz.ntmps135;go_wp2_with fail;rw[←aH];clear rk aH aK B0 K0 V0 A0 z3;obtain⟨WT,aG⟩:=D9 (W1);rw[←aG]at AT KT VT BT ⊢;clear aG;obtain⟨gA,bP⟩:=D9 (w.heap.size+1+1);rw[←bP]at AT ⊢;have cK:w.heap.size≤gA:=by omega
   clear bP;refine (Ej k d hk hd WT).mono ?_;rintro e W5 ⟨rfl,h5⟩;have A5:=AT.bl h5;have K5:=KT.bl h5;have V5:=VT.bl h5;have B5:=X4 BT h5;have f0:=A5.frozen 0;have f1:=A5.frozen 1;clear h5 AT KT VT BT;cases hbit:E3 k d
   ·have aA:pp.put k v (f+1) d=(Pt.put k v f (d+1) (l)).map (fun x=>.nd x (r)):=by rw[aF.out,hbit];rfl
    have aB:=Lib.hid aA;clear aA;go_wp2_with fail;have S0:=Nq W5;refine Ij (fun W=>Below W5.heap.size W5 W) ?_;refine Cn (A:=?bQ) [0,1,2,3,4,5,6] S0 (fun W hW=>?aL) ?aM;case aL=>
     have c0:W.cell? ⟨gA,0,none⟩=some (l).val:=(A5.bl hW).at_ rfl;have rk:C4 W ⟨w.heap.size,0,none⟩ 32=some (c8 k):=by have:=(K5.bl hW).rows;rwa [C1,hk]at this
     have rv:C4 W ⟨w.heap.size+1,0,none⟩ 32=some (c8 v):=by have:=(V5.bl hW).rows;rwa [C1,hv]at this
     exact Fa
    case aM=>
     refine Q6 7 fun Q' hQ'=>?_;dsimp only[C6];go_wp2_with fail;rw[show (d:Int)+1=((d+1:Nat):Int) from by omega];refine (ih (d+1) (l) (Jc P d false) _ (by omega) bN (U9 ha hbit)).mono ?_;rintro e W6 ⟨q,n,rfl,aD,h6⟩;have S6:=X4 S0 h6;have A6:=A5.bl S6;have B6:=X4 B5 S6;have f0:=A6.frozen 0;have c0:=A6.at_ (i:=0) rfl;go_wp2_with fail;refine hQ' _ _ S6 ?_;clear hQ';refine Cn (A:=?bR) [8,9,10] S6 (fun W hW=>?aN) ?aO;case aN=>
      simp only[List.append_eq,Nw,pick,Se];repeat (go_big_quiet_step (fail))
      refine wpQuiet_nil ?_;rfl
     case aO=>
      refine Q6 11 fun Q' hQ'=>?_;dsimp only[C6];go_wp2_with fail;refine hQ' _ _ S6 ?_;clear hQ';refine Q6 12 fun Q' hQ'=>?_;dsimp only[C6];go_wp2_with fail;refine hQ' _ _ S6 ?_;clear hQ';refine Gn ?_;have A7:=A6.set_ 0 q.val;have d0:=A7.at_ (i:=0) rfl;have d1:=A7.at_ (i:=1) rfl;clear A6 A7 S6;rcases q.form with hq | ⟨tq,xq,hq⟩;all_goals
       rw[hq]at d0 d1 ⊢;have Hq:=Lib.hid hq;clear hq;go_wp2_with fail;refine bodyPost_ret (C8 rfl (C5.tmp rfl) (C5.tmp rfl)) rfl ⟨.nd q (r),n,by simp only[Pt.val,Hq.out];rfl,?_,B6.setCell (p:=⟨gA,0,none⟩) (by simp;omega) _⟩;rw[aB.out];revert aD;cases Pt.put k v f (d+1) (l) with
       | none=>exact fun h=>h
       | some t=>rintro ⟨rfl,h⟩;exact ⟨rfl,h⟩
   ·have aA:pp.put k v (f+1) d=(Pt.put k v f (d+1) (r)).map (.nd (l)):=by rw[aF.out,hbit];rfl
    have aB:=Lib.hid aA;clear aA;go_wp2_with fail;have S0:=Nq W5;refine Ij (fun W=>Below W5.heap.size W5 W) ?_;refine Cn (A:=?cB) [0,1,2,3,4,5,6] S0 (fun W hW=>?aY) ?aZ;case aY=>
     have c0:W.cell? ⟨gA,1,none⟩=some (r).val:=(A5.bl hW).at_ rfl;have rk:C4 W ⟨w.heap.size,0,none⟩ 32=some (c8 k):=by have:=(K5.bl hW).rows;rwa [C1,hk]at this
     have rv:C4 W ⟨w.heap.size+1,0,none⟩ 32=some (c8 v):=by have:=(V5.bl hW).rows;rwa [C1,hv]at this
     exact Fa
    case aZ=>
     refine Q6 7 fun Q' hQ'=>?_;dsimp only[C6];go_wp2_with fail;rw[show (d:Int)+1=((d+1:Nat):Int) from by omega];refine (ih (d+1) (r) (Jc P d true) _ (by omega) bO (U9 ha hbit)).mono ?_;rintro e W6 ⟨q,n,rfl,aD,h6⟩;have S6:=X4 S0 h6;have A6:=A5.bl S6;have B6:=X4 B5 S6;have f0:=A6.frozen 1;have c0:=A6.at_ (i:=1) rfl;go_wp2_with fail;refine hQ' _ _ S6 ?_;clear hQ';refine Cn (A:=?cC) [8,9,10] S6 (fun W hW=>?bA) ?bB;case bA=>
      simp only[List.append_eq,Nw,pick,Se];repeat (go_big_quiet_step (fail))
      refine wpQuiet_nil ?_;rfl
     case bB=>
      refine Q6 11 fun Q' hQ'=>?_;dsimp only[C6];go_wp2_with fail;refine hQ' _ _ S6 ?_;clear hQ';refine Q6 12 fun Q' hQ'=>?_;dsimp only[C6];go_wp2_with fail;refine hQ' _ _ S6 ?_;clear hQ';refine Gn ?_;have A7:=A6.set_ 1 q.val;have d0:=A7.at_ (i:=0) rfl;have d1:=A7.at_ (i:=1) rfl;clear A6 A7 S6;rcases q.form with hq | ⟨tq,xq,hq⟩;all_goals
       rw[hq]at d0 d1 ⊢;have Hq:=Lib.hid hq;clear hq;go_wp2_with fail;refine bodyPost_ret (C8 rfl (C5.tmp rfl) (C5.tmp rfl)) rfl ⟨.nd (l) q,n,by simp only[Pt.val,Hq.out];rfl,?_,B6.setCell (p:=⟨gA,1,none⟩) (by simp;omega) _⟩;rw[aB.out];revert aD;cases Pt.put k v f (d+1) (r) with
       | none=>exact fun h=>h
       | some t=>rintro ⟨rfl,h⟩;exact ⟨rfl,h⟩
  | lf k' v'=>
   have bC:k'.length=32:=ok.1;have bL:v'.length=32:=ok.2.1;by_cases e:k'=k
   ·subst e;exact (A7h k' v bC hv d w v' bL).mono fun e w' ⟨h1,h2⟩=>⟨.lf k' v,0,h1,by simp[Pt.put,Xm],h2⟩
   have cL:(k'==k)=false:=by simp[e]
   have cH:(pb (k',v')).length=64:=Si.len ⟨bC,bL⟩;obtain⟨W1,aH⟩:=D9 (C2 (W0.alloc (Obj.cells (c8 (z8 64)).toArray 216)) ⟨W0.heap.size,0,none⟩ (c8 (pb (k',v'))));have bS:Below W0.heap.size W0 W1:=by rw[aH];exact C0 (U7 _ _) (Nat.le_refl _) _
   have L1:Bk W1 (w.heap.size+1+1+1) 216 (c8 (pb (k',v'))):=by rw[←z3,aH];exact Bk.fresh W0 _ (by simp[cH])
   have K1:=K0.bl bS;have V1:=V0.bl bS;have A1:=A0.bl bS;have B1:=X4 B0 bS;have rk:C4 W1 ⟨w.heap.size,0,none⟩ 32=some (c8 k):=by have:=K1.rows;rwa [C1,hk]at this
   have rp:=Hv L1 ⟨bC,bL⟩;have cI:=B3u L1 ⟨bC,bL⟩;have d0:=A1.at_ (i:=0) rfl;have f0:=A1.frozen 0;have bT:F9 (W0.alloc (Obj.cells (c8 (z8 64)).toArray 216)) ⟨W0.heap.size,0,none⟩ 64=true:=(Bk.new W0 _ _).can (by simp);rw[z3,aK]at bT;rw[aH,z3,aK]at rk rp cI d0 f0;obtain⟨W2,bM⟩:=D9 (W1.setCell ⟨w.heap.size+1+1,0,none⟩ (.iface 216 (A8 (pb (k',v')))));have L2:Bk W2 (w.heap.size+1+1+1) 216 (c8 (pb (k',v'))):=by rw[bM];exact L1.far (by simp) _
   have A2:Bk W2 (w.heap.size+1+1) 222 [.iface 216 (A8 (pb (k',v'))),.nilIface]:=by rw[bM];exact A1.set_ 0 _
   have K2:Bk W2 w.heap.size 40 (c8 k):=by rw[bM];exact K1.far (by simp;omega) _
   have V2:Bk W2 (w.heap.size+1) 40 (c8 v):=by rw[bM];exact V1.far (by simp) _
   have B2:Below w.heap.size w W2:=by rw[bM];exact B1.setCell (p:=⟨w.heap.size+1+1,0,none⟩) (by simp;omega) _
   have rq:=Hv L2 ⟨bC,bL⟩;rw[bM,aH,z3,aK]at rq;obtain⟨pp,aX⟩:=D9 (Pt.lf k' v');have aC:pp.put k v (f+1) d=if E3 k d then (Pt.put k v f (d+1) (if E3 k' d then .lf k' v' else .e)).map (.nd (if E3 k' d then .e else .lf k' v')) else (Pt.put k v f (d+1) (if E3 k' d then .e else .lf k' v')).map (fun x=>.nd x (if E3 k' d then .lf k' v' else .e)):=by rw[aX];simp only[Pt.put,if_neg e]
   have aE:pp.val=.iface 216 (A8 (pb (k',v'))):=by rw[aX];rfl
   rw[←aX,aE];have aI:=Lib.hid aC;clear aC aE aX;go_enter Tryz.func135,Tryz.ntmps135;go_wp2_with fail;rw[←aK,←z3,←aH,z3,←bM];clear rk rp cI rq d0 f0 bT bM aH aK L1 K1 V1 A1 B1 bS B0 K0 V0 A0 z3 e cL;refine (Ej k' d bC hd W2).mono ?_;rintro e W3 ⟨rfl,h3⟩;have L3:=L2.bl h3;have A3:=A2.bl h3;have K3:=K2.bl h3;have V3:=V2.bl h3;have B3:=X4 B2 h3;clear h3 L2 A2 K2 V2 B2;have aE:(Pt.lf k' v').val=.iface 216 (A8 (pb (k',v'))):=rfl;have aJ:=ok.2.2;obtain⟨gA,bP⟩:=D9 (w.heap.size+1+1);rw[←bP]at L3 A3 ⊢;have cK:w.heap.size+1<gA:=by omega
   clear bP;cases hb':E3 k' d
   ·have bN:(Pt.lf k' v').Ok (d+1) (Jc P d false):=⟨bC,bL,U9 aJ hb'⟩;have bO:Pt.e.Ok (d+1) (Jc P d true):=trivial;have aC:pp.put k v (f+1) d=if E3 k d then (Pt.put k v f (d+1) .e).map (.nd (.lf k' v')) else (Pt.put k v f (d+1) (.lf k' v')).map (fun x=>.nd x .e):=by rw[aI.out,hb'];rfl
    have aF:=Lib.hid aC;have rk:C4 W3 ⟨w.heap.size,0,none⟩ 32=some (c8 k):=by have:=K3.rows;rwa [C1,hk]at this
    clear aI aC;go_wp2_with fail;clear rk;obtain⟨WT,aG⟩:=D9 (W3);have AT:Bk WT gA 222 [(Pt.lf k' v').val,Pt.e.val]:=by rw[aG];exact A3
    have KT:Bk WT w.heap.size 40 (c8 k):=by rw[aG];exact K3
    have VT:Bk WT (w.heap.size+1) 40 (c8 v):=by rw[aG];exact V3
    have BT:Below w.heap.size w WT:=by rw[aG];exact B3
    rw[←aG];clear aG A3 K3 V3 B3 L3;rw[←aE];clear aE aJ;refine (Ej k d hk hd WT).mono ?_;rintro e W5 ⟨rfl,h5⟩;have A5:=AT.bl h5;have K5:=KT.bl h5;have V5:=VT.bl h5;have B5:=X4 BT h5;have f0:=A5.frozen 0;have f1:=A5.frozen 1;clear h5 AT KT VT BT;cases hbit:E3 k d
    ·have aA:pp.put k v (f+1) d=(Pt.put k v f (d+1) (Pt.lf k' v')).map (fun x=>.nd x (Pt.e)):=by rw[aF.out,hbit];rfl
     have aB:=Lib.hid aA;clear aA;go_wp2_with fail;have S0:=Nq W5;refine Ij (fun W=>Below W5.heap.size W5 W) ?_;refine Cn (A:=?bU) [0,1,2,3,4,5,6] S0 (fun W hW=>?aP) ?aQ;case aP=>
      have c0:W.cell? ⟨gA,0,none⟩=some (Pt.lf k' v').val:=(A5.bl hW).at_ rfl;have rk:C4 W ⟨w.heap.size,0,none⟩ 32=some (c8 k):=by have:=(K5.bl hW).rows;rwa [C1,hk]at this
      have rv:C4 W ⟨w.heap.size+1,0,none⟩ 32=some (c8 v):=by have:=(V5.bl hW).rows;rwa [C1,hv]at this
      exact Fa
     case aQ=>
      refine Q6 7 fun Q' hQ'=>?_;dsimp only[C6];go_wp2_with fail;rw[show (d:Int)+1=((d+1:Nat):Int) from by omega];refine (ih (d+1) (Pt.lf k' v') (Jc P d false) _ (by omega) bN (U9 ha hbit)).mono ?_;rintro e W6 ⟨q,n,rfl,aD,h6⟩;have S6:=X4 S0 h6;have A6:=A5.bl S6;have B6:=X4 B5 S6;have f0:=A6.frozen 0;have c0:=A6.at_ (i:=0) rfl;go_wp2_with fail;refine hQ' _ _ S6 ?_;clear hQ';refine Cn (A:=?bX) [8,9,10] S6 (fun W hW=>?aR) ?aS;case aR=>
       simp only[List.append_eq,Nw,pick,Se];repeat (go_big_quiet_step (fail))
       refine wpQuiet_nil ?_;rfl
      case aS=>
       refine Q6 11 fun Q' hQ'=>?_;dsimp only[C6];go_wp2_with fail;refine hQ' _ _ S6 ?_;clear hQ';refine Q6 12 fun Q' hQ'=>?_;dsimp only[C6];go_wp2_with fail;refine hQ' _ _ S6 ?_;clear hQ';refine Gn ?_;have A7:=A6.set_ 0 q.val;have d0:=A7.at_ (i:=0) rfl;have d1:=A7.at_ (i:=1) rfl;clear A6 A7 S6;rcases q.form with hq | ⟨tq,xq,hq⟩;all_goals
        rw[hq]at d0 d1 ⊢;have Hq:=Lib.hid hq;clear hq;go_wp2_with fail;refine bodyPost_ret (C8 rfl (C5.tmp rfl) (C5.tmp rfl)) rfl ⟨.nd q (Pt.e),n,by simp only[Pt.val,Hq.out];rfl,?_,B6.setCell (p:=⟨gA,0,none⟩) (by simp;omega) _⟩;rw[aB.out];revert aD;cases Pt.put k v f (d+1) (Pt.lf k' v') with
        | none=>exact fun h=>h
        | some t=>rintro ⟨rfl,h⟩;exact ⟨rfl,h⟩
    ·have aA:pp.put k v (f+1) d=(Pt.put k v f (d+1) (Pt.e)).map (.nd (Pt.lf k' v')):=by rw[aF.out,hbit];rfl
     have aB:=Lib.hid aA;clear aA;go_wp2_with fail;have S0:=Nq W5;refine Ij (fun W=>Below W5.heap.size W5 W) ?_;refine Cn (A:=?cD) [0,1,2,3,4,5,6] S0 (fun W hW=>?bD) ?bE;case bD=>
      have c0:W.cell? ⟨gA,1,none⟩=some (Pt.e).val:=(A5.bl hW).at_ rfl;have rk:C4 W ⟨w.heap.size,0,none⟩ 32=some (c8 k):=by have:=(K5.bl hW).rows;rwa [C1,hk]at this
      have rv:C4 W ⟨w.heap.size+1,0,none⟩ 32=some (c8 v):=by have:=(V5.bl hW).rows;rwa [C1,hv]at this
      exact Fa
     case bE=>
      refine Q6 7 fun Q' hQ'=>?_;dsimp only[C6];go_wp2_with fail;rw[show (d:Int)+1=((d+1:Nat):Int) from by omega];refine (ih (d+1) (Pt.e) (Jc P d true) _ (by omega) bO (U9 ha hbit)).mono ?_;rintro e W6 ⟨q,n,rfl,aD,h6⟩;have S6:=X4 S0 h6;have A6:=A5.bl S6;have B6:=X4 B5 S6;have f0:=A6.frozen 1;have c0:=A6.at_ (i:=1) rfl;go_wp2_with fail;refine hQ' _ _ S6 ?_;clear hQ';refine Cn (A:=?cE) [8,9,10] S6 (fun W hW=>?bF) ?bG;case bF=>
       simp only[List.append_eq,Nw,pick,Se];repeat (go_big_quiet_step (fail))
       refine wpQuiet_nil ?_;rfl
      case bG=>
       refine Q6 11 fun Q' hQ'=>?_;dsimp only[C6];go_wp2_with fail;refine hQ' _ _ S6 ?_;clear hQ';refine Q6 12 fun Q' hQ'=>?_;dsimp only[C6];go_wp2_with fail;refine hQ' _ _ S6 ?_;clear hQ';refine Gn ?_;have A7:=A6.set_ 1 q.val;have d0:=A7.at_ (i:=0) rfl;have d1:=A7.at_ (i:=1) rfl;clear A6 A7 S6;rcases q.form with hq | ⟨tq,xq,hq⟩;all_goals
        rw[hq]at d0 d1 ⊢;have Hq:=Lib.hid hq;clear hq;go_wp2_with fail;refine bodyPost_ret (C8 rfl (C5.tmp rfl) (C5.tmp rfl)) rfl ⟨.nd (Pt.lf k' v') q,n,by simp only[Pt.val,Hq.out];rfl,?_,B6.setCell (p:=⟨gA,1,none⟩) (by simp;omega) _⟩;rw[aB.out];revert aD;cases Pt.put k v f (d+1) (Pt.e) with
        | none=>exact fun h=>h
        | some t=>rintro ⟨rfl,h⟩;exact ⟨rfl,h⟩
   ·have bN:Pt.e.Ok (d+1) (Jc P d false):=trivial;have bO:(Pt.lf k' v').Ok (d+1) (Jc P d true):=⟨bC,bL,U9 aJ hb'⟩;have aC:pp.put k v (f+1) d=if E3 k d then (Pt.put k v f (d+1) (.lf k' v')).map (.nd .e) else (Pt.put k v f (d+1) .e).map (fun x=>.nd x (.lf k' v')):=by rw[aI.out,hb'];rfl
    have aF:=Lib.hid aC;clear aI aC;go_wp2_with fail;have S0:Bk W3.drew (gA+1) 216 (c8 (pb (k',v'))):=L3.drew;have e0:=A3.at_ (i:=0) rfl;have e1:=A3.at_ (i:=1) rfl;have f0:=A3.frozen 0;have f1:=A3.frozen 1;have cO:=A3.lt;refine Ij (fun W=>Bk W (gA+1) 216 (c8 (pb (k',v')))) ?_;refine Cn (A:=?cP) [0,1,2] S0 (fun W hW=>?cM) ?cN;case cM=>have rp:=B3u hW ⟨bC,bL⟩;exact Fa
    case cN=>
     refine Q6 3 fun Q' hQ'=>?_;dsimp only[C6];go_wp2_with fail;have L4:Bk (W3.drew.setCell ⟨gA,0,none⟩ .nilIface) (gA+1) 216 (c8 (pb (k',v'))):=L3.drew.far (by simp) _;have A4:=A3.drew.set_ 0 .nilIface;refine hQ' _ _ L4 ?_;clear hQ';obtain⟨W4,bY⟩:=D9 (W3.drew.setCell ⟨gA,0,none⟩ .nilIface);change P5 _ _ _ _ _ _ (W3.drew.setCell ⟨gA,0,none⟩ .nilIface);have K4:Bk W4 w.heap.size 40 (c8 k):=by rw[bY];exact K3.drew.far (by simp;omega) _
     have V4:Bk W4 (w.heap.size+1) 40 (c8 v):=by rw[bY];exact V3.drew.far (by simp;omega) _
     have B4:Below w.heap.size w W4:=by rw[bY];exact B3.drew.setCell (p:=⟨gA,0,none⟩) (by simp;omega) _
     rw[←bY]at L4 A4 ⊢;clear bY L3 A3 K3 V3 B3 S0 e0 e1 f0 f1;refine Q6 4 fun Q' hQ'=>?_;dsimp only[C6];go_wp2_with fail;refine hQ' _ _ L4 ?_;clear hQ';have e1:=A4.at_ (i:=1) rfl;have f1:=A4.frozen 1;refine Q6 5 fun Q' hQ'=>?_;dsimp only[C6];go_wp2_with fail;refine hQ' _ _ (L4.far (by simp) _) ?_;clear hQ';obtain⟨WT,aG⟩:=D9 (W4.setCell ⟨gA,1,none⟩ (.iface 216 (A8 (pb (k',v')))));have AT:Bk WT gA 222 [Pt.e.val,(Pt.lf k' v').val]:=by rw[aG];exact A4.set_ 1 _
     have KT:Bk WT w.heap.size 40 (c8 k):=by rw[aG];exact K4.far (by simp;omega) _
     have VT:Bk WT (w.heap.size+1) 40 (c8 v):=by rw[aG];exact V4.far (by simp;omega) _
     have BT:Below w.heap.size w WT:=by rw[aG];exact B4.setCell (p:=⟨gA,1,none⟩) (by simp;omega) _
     rw[←aG];clear aG L4 A4 K4 V4 B4 e1 f1;refine Gn ?_;have rk:C4 WT ⟨w.heap.size,0,none⟩ 32=some (c8 k):=by have:=KT.rows;rwa [C1,hk]at this
     go_wp2_with fail;clear rk;rw[←aE];clear aE aJ;refine (Ej k d hk hd WT).mono ?_;rintro e W5 ⟨rfl,h5⟩;have A5:=AT.bl h5;have K5:=KT.bl h5;have V5:=VT.bl h5;have B5:=X4 BT h5;have f0:=A5.frozen 0;have f1:=A5.frozen 1;clear h5 AT KT VT BT;cases hbit:E3 k d
     ·have aA:pp.put k v (f+1) d=(Pt.put k v f (d+1) (Pt.e)).map (fun x=>.nd x (Pt.lf k' v')):=by rw[aF.out,hbit];rfl
      have aB:=Lib.hid aA;clear aA;go_wp2_with fail;have S0:=Nq W5;refine Ij (fun W=>Below W5.heap.size W5 W) ?_;refine Cn (A:=?bZ) [0,1,2,3,4,5,6] S0 (fun W hW=>?aT) ?aU;case aT=>
       have c0:W.cell? ⟨gA,0,none⟩=some (Pt.e).val:=(A5.bl hW).at_ rfl;have rk:C4 W ⟨w.heap.size,0,none⟩ 32=some (c8 k):=by have:=(K5.bl hW).rows;rwa [C1,hk]at this
       have rv:C4 W ⟨w.heap.size+1,0,none⟩ 32=some (c8 v):=by have:=(V5.bl hW).rows;rwa [C1,hv]at this
       exact Fa
      case aU=>
       refine Q6 7 fun Q' hQ'=>?_;dsimp only[C6];go_wp2_with fail;rw[show (d:Int)+1=((d+1:Nat):Int) from by omega];refine (ih (d+1) (Pt.e) (Jc P d false) _ (by omega) bN (U9 ha hbit)).mono ?_;rintro e W6 ⟨q,n,rfl,aD,h6⟩;have S6:=X4 S0 h6;have A6:=A5.bl S6;have B6:=X4 B5 S6;have f0:=A6.frozen 0;have c0:=A6.at_ (i:=0) rfl;go_wp2_with fail;refine hQ' _ _ S6 ?_;clear hQ';refine Cn (A:=?cA) [8,9,10] S6 (fun W hW=>?aV) ?aW;case aV=>
        simp only[List.append_eq,Nw,pick,Se];repeat (go_big_quiet_step (fail))
        refine wpQuiet_nil ?_;rfl
       case aW=>
        refine Q6 11 fun Q' hQ'=>?_;dsimp only[C6];go_wp2_with fail;refine hQ' _ _ S6 ?_;clear hQ';refine Q6 12 fun Q' hQ'=>?_;dsimp only[C6];go_wp2_with fail;refine hQ' _ _ S6 ?_;clear hQ';refine Gn ?_;have A7:=A6.set_ 0 q.val;have d0:=A7.at_ (i:=0) rfl;have d1:=A7.at_ (i:=1) rfl;clear A6 A7 S6;rcases q.form with hq | ⟨tq,xq,hq⟩;all_goals
         rw[hq]at d0 d1 ⊢;have Hq:=Lib.hid hq;clear hq;go_wp2_with fail;refine bodyPost_ret (C8 rfl (C5.tmp rfl) (C5.tmp rfl)) rfl ⟨.nd q (Pt.lf k' v'),n,by simp only[Pt.val,Hq.out];rfl,?_,B6.setCell (p:=⟨gA,0,none⟩) (by simp;omega) _⟩;rw[aB.out];revert aD;cases Pt.put k v f (d+1) (Pt.e) with
         | none=>exact fun h=>h
         | some t=>rintro ⟨rfl,h⟩;exact ⟨rfl,h⟩
     ·have aA:pp.put k v (f+1) d=(Pt.put k v f (d+1) (Pt.lf k' v')).map (.nd (Pt.e)):=by rw[aF.out,hbit];rfl
      have aB:=Lib.hid aA;clear aA;go_wp2_with fail;have S0:=Nq W5;refine Ij (fun W=>Below W5.heap.size W5 W) ?_;refine Cn (A:=?cF) [0,1,2,3,4,5,6] S0 (fun W hW=>?bH) ?bI;case bH=>
       have c0:W.cell? ⟨gA,1,none⟩=some (Pt.lf k' v').val:=(A5.bl hW).at_ rfl;have rk:C4 W ⟨w.heap.size,0,none⟩ 32=some (c8 k):=by have:=(K5.bl hW).rows;rwa [C1,hk]at this
       have rv:C4 W ⟨w.heap.size+1,0,none⟩ 32=some (c8 v):=by have:=(V5.bl hW).rows;rwa [C1,hv]at this
       exact Fa
      case bI=>
       refine Q6 7 fun Q' hQ'=>?_;dsimp only[C6];go_wp2_with fail;rw[show (d:Int)+1=((d+1:Nat):Int) from by omega];refine (ih (d+1) (Pt.lf k' v') (Jc P d true) _ (by omega) bO (U9 ha hbit)).mono ?_;rintro e W6 ⟨q,n,rfl,aD,h6⟩;have S6:=X4 S0 h6;have A6:=A5.bl S6;have B6:=X4 B5 S6;have f0:=A6.frozen 1;have c0:=A6.at_ (i:=1) rfl;go_wp2_with fail;refine hQ' _ _ S6 ?_;clear hQ';refine Cn (A:=?cG) [8,9,10] S6 (fun W hW=>?bJ) ?bK;case bJ=>
        simp only[List.append_eq,Nw,pick,Se];repeat (go_big_quiet_step (fail))
        refine wpQuiet_nil ?_;rfl
       case bK=>
        refine Q6 11 fun Q' hQ'=>?_;dsimp only[C6];go_wp2_with fail;refine hQ' _ _ S6 ?_;clear hQ';refine Q6 12 fun Q' hQ'=>?_;dsimp only[C6];go_wp2_with fail;refine hQ' _ _ S6 ?_;clear hQ';refine Gn ?_;have A7:=A6.set_ 1 q.val;have d0:=A7.at_ (i:=0) rfl;have d1:=A7.at_ (i:=1) rfl;clear A6 A7 S6;rcases q.form with hq | ⟨tq,xq,hq⟩;all_goals
         rw[hq]at d0 d1 ⊢;have Hq:=Lib.hid hq;clear hq;go_wp2_with fail;refine bodyPost_ret (C8 rfl (C5.tmp rfl) (C5.tmp rfl)) rfl ⟨.nd (Pt.e) q,n,by simp only[Pt.val,Hq.out];rfl,?_,B6.setCell (p:=⟨gA,1,none⟩) (by simp;omega) _⟩;rw[aB.out];revert aD;cases Pt.put k v f (d+1) (Pt.lf k' v') with
         | none=>exact fun h=>h
         | some t=>rintro ⟨rfl,h⟩;exact ⟨rfl,h⟩
end
def Tr.cut:Tr→List (List UInt8)→Nat→Pt
 | .e,_,_=>.e
 | .lf k v,ks,_=>if ks.isEmpty then .hd (Tr.lf k v).root else .lf k v
 | .nd l r,ks,d=>if ks.isEmpty then .hd (Tr.nd l r).root else .nd (l.cut (ks.filter fun x=>!E3 x d) (d+1)) (r.cut (ks.filter fun x=>E3 x d) (d+1))
def Jd:Pt→Tr→Prop
 | .e,.e=>True
 | .lf k v,.lf k' v'=>k=k'∧v=v'
 | .nd l r,.nd l' r'=>Jd l l'∧Jd r r'
 | .hd h,t=>h=t.root
 | _,_=>False
def Pt.knows (k:List UInt8):Nat→Pt→Prop
 | _,.hd _=>False
 | d,.nd l r=>if E3 k d then r.knows k (d+1) else l.knows k (d+1)
 | _,_=>True
theorem Jd.root:∀ {p:Pt} {t:Tr},Jd p t→p.root=t.root
 | .e,.e,_=>rfl
 | .lf _ _,.lf _ _,h=>by obtain⟨rfl,rfl⟩:=h;rfl
 | .nd _ _,.nd _ _,h=>by simp only[Pt.root,Tr.root];rw[Jd.root h.1,Jd.root h.2]
 | .hd h,t,e=>by cases t<;>exact e
 | .e,.lf _ _,h=>h.elim
 | .e,.nd _ _,h=>h.elim
 | .lf _ _,.e,h=>h.elim
 | .lf _ _,.nd _ _,h=>h.elim
 | .nd _ _,.e,h=>h.elim
 | .nd _ _,.lf _ _,h=>h.elim
theorem Jd.ok:∀ {p:Pt} {t:Tr} {d:Nat} {P:Nat→Bool},Jd p t→Ok d P t→p.Ok d P
 | .e,.e,_,_,_,_=>trivial
 | .lf _ _,.lf _ _,_,_,h,ok=>by obtain⟨rfl,rfl⟩:=h;exact ok
 | .nd _ _,.nd _ _,_,_,h,ok=>⟨ok.1,Jd.ok h.1 ok.2.2.1,Jd.ok h.2 ok.2.2.2⟩
 | .hd h,t,_,_,e,_=>by have e':h=t.root:=Jd.root (p:=.hd h) e;subst e';exact t.root_length
 | .e,.lf _ _,_,_,h,_=>h.elim
 | .e,.nd _ _,_,_,h,_=>h.elim
 | .lf _ _,.e,_,_,h,_=>h.elim
 | .lf _ _,.nd _ _,_,_,h,_=>h.elim
 | .nd _ _,.e,_,_,h,_=>h.elim
 | .nd _ _,.lf _ _,_,_,h,_=>h.elim
theorem A4c:∀(t:Tr) (ks:List (List UInt8)) (d:Nat),Jd (t.cut ks d) t
 | .e,_,_=>trivial
 | .lf k v,ks,d=>by
  by_cases h:ks.isEmpty=true<;>simp only[Tr.cut,h,if_true,if_false,Bool.false_eq_true]
  ·exact rfl
  ·exact ⟨rfl,rfl⟩
 | .nd l r,ks,d=>by
  by_cases h:ks.isEmpty=true<;>simp only[Tr.cut,h,if_true,if_false,Bool.false_eq_true]
  ·exact rfl
  ·exact ⟨A4c l _ _,A4c r _ _⟩
theorem Xs {k:List UInt8}:∀(t:Tr) (ks:List (List UInt8)) (d:Nat),k∈ks→(t.cut ks d).knows k d
 | .e,_,_,_=>trivial
 | .lf _ _,ks,d,hk=>by
  have h:ks.isEmpty=false:=by cases ks with | nil=>cases hk | cons _ _=>rfl
  simp only[Tr.cut,h,if_false,Bool.false_eq_true];trivial
 | .nd l r,ks,d,hk=>by
  have h:ks.isEmpty=false:=by cases ks with | nil=>cases hk | cons _ _=>rfl
  simp only[Tr.cut,h,if_false,Bool.false_eq_true,Pt.knows];by_cases hb:E3 k d=true
  ·simp only[hb,if_true];exact Xs r _ _ (List.mem_filter.2 ⟨hk,hb⟩)
  ·simp only[hb,if_false,Bool.false_eq_true];exact Xs l _ _ (List.mem_filter.2 ⟨hk,by simpa using hb⟩)
def A0p:Option (List UInt8)→List UInt8×Bool×Nat
 | some v=>(v,true,0)
 | none=>(z8 32,false,0)
theorem D3k (k:List UInt8) (d:Nat) (l r:Tr):(Tr.nd l r).look k d=if E3 k d then r.look k (d+1) else l.look k (d+1):=by
 unfold Tr.look;by_cases hb:E3 k d=true<;>simp only[Tr.lead,hb,if_true,if_false,Bool.false_eq_true]
theorem A1a {k:List UInt8}:∀ {p:Pt} {t:Tr} {d:Nat},Jd p t→p.knows k d→p.get k d=A0p (t.look k d)
 | .e,.e,_,_,_=>rfl
 | .lf k' v,.lf _ _,_,h,_=>by
  obtain⟨rfl,rfl⟩:=h;simp only[Pt.get,Tr.look,Tr.lead];by_cases e:k'=k<;>simp[e,A0p]
 | .nd l r,.nd l' r',d,h,hk=>by
  rw[D3k];simp only[Pt.get,Pt.knows]at hk ⊢;by_cases hb:E3 k d=true
  ·simp only[hb,if_true]at hk ⊢;exact A1a h.2 hk
  ·simp only[hb,if_false,Bool.false_eq_true]at hk ⊢;exact A1a h.1 hk
 | .hd h,_,_,_,hk=>hk.elim
 | .e,.lf _ _,_,h,_=>h.elim
 | .e,.nd _ _,_,h,_=>h.elim
 | .lf _ _,.e,_,h,_=>h.elim
 | .lf _ _,.nd _ _,_,h,_=>h.elim
 | .nd _ _,.e,_,h,_=>h.elim
 | .nd _ _,.lf _ _,_,h,_=>h.elim
theorem C9p {k v:List UInt8} (hk:k.length=32):∀(f d:Nat) (p:Pt) (t:Tr) (P:Nat→Bool),f+d=256→(∀i,i<d→E3 k i=P i)→Ok d P t→Jd p t→p.knows k d→
 ∃q,p.put k v f d=some q∧Jd q (Dl k v f d t)∧∀k',p.knows k' d→q.knows k' d:=by
 intro f;induction f with
 | zero=>
  intro d p t P aC ha ok hv aA;cases p with
  | e=>cases t with
   | e=>exact ⟨_,rfl,⟨rfl,rfl⟩,fun _ _=>trivial⟩
   | lf _ _=>exact hv.elim
   | nd _ _=>exact hv.elim
  | lf a b=>cases t with
   | e=>exact hv.elim
   | nd _ _=>exact hv.elim
   | lf k' v'=>
    obtain⟨rfl,rfl⟩:=hv;have e:a=k:=Nf ok.1 hk fun i hi=>by rw[ok.2.2 i (by omega),ha i (by omega)]
    subst e;exact ⟨.lf a v,by simp[Pt.put],by simp only[Dl,if_true];exact ⟨rfl,rfl⟩,fun _ _=>trivial⟩
  | nd l r=>cases t with
   | e=>exact hv.elim
   | lf _ _=>exact hv.elim
   | nd _ _=>exact absurd ok.1 (by omega)
  | hd h=>exact aA.elim
 | succ f ih=>
  intro d p t P aC ha ok hv aA;cases p with
  | e=>cases t with
   | e=>exact ⟨_,rfl,⟨rfl,rfl⟩,fun _ _=>trivial⟩
   | lf _ _=>exact hv.elim
   | nd _ _=>exact hv.elim
  | hd h=>exact aA.elim
  | lf a b=>cases t with
   | e=>exact hv.elim
   | nd _ _=>exact hv.elim
   | lf k' v'=>
    obtain⟨rfl,rfl⟩:=hv;by_cases e:a=k
    ·subst e;exact ⟨.lf a v,by simp[Pt.put],by simp only[Dl,if_true];exact ⟨rfl,rfl⟩,fun _ _=>trivial⟩
    ·have aB:∀c,E3 a d=c→Ok (d+1) (Jc P d c) (.lf a b):=fun c hc=>⟨ok.1,ok.2.1,fun i hi=>U9 ok.2.2 hc i hi⟩;by_cases hb:E3 k d=true<;>by_cases hc:E3 a d=true
     ·obtain⟨q,h1,h2,h3⟩:=ih (d+1) (.lf a b) (.lf a b) (Jc P d true) (by omega) (U9 ha hb) (aB _ hc) ⟨rfl,rfl⟩ trivial;refine ⟨.nd .e q,by simp[Pt.put,e,hb,hc,h1],by simp only[Dl,e,if_false,hb,hc,if_true];exact ⟨trivial,h2⟩,fun x _=>?_⟩;simp only[Pt.knows];split
      ·exact h3 x trivial
      ·trivial
     ·obtain⟨q,h1,h2,h3⟩:=ih (d+1) .e .e (Jc P d true) (by omega) (U9 ha hb) trivial trivial trivial;refine ⟨.nd (.lf a b) q,by simp[Pt.put,e,hb,hc,h1],by simp only[Dl,e,if_false,hb,hc,if_true,Bool.false_eq_true];exact ⟨⟨rfl,rfl⟩,by cases f<;>simpa only[Dl] using h2⟩,fun x _=>?_⟩;simp only[Pt.knows];split
      ·exact h3 x trivial
      ·trivial
     ·obtain⟨q,h1,h2,h3⟩:=ih (d+1) .e .e (Jc P d false) (by omega) (U9 ha (by simpa using hb)) trivial trivial trivial;refine ⟨.nd q (.lf a b),by simp[Pt.put,e,hb,hc,h1],by simp only[Dl,e,if_false,hb,hc,if_true,Bool.false_eq_true];exact ⟨by cases f<;>simpa only[Dl] using h2,⟨rfl,rfl⟩⟩,fun x _=>?_⟩;simp only[Pt.knows];split
      ·trivial
      ·exact h3 x trivial
     ·obtain⟨q,h1,h2,h3⟩:=ih (d+1) (.lf a b) (.lf a b) (Jc P d false) (by omega) (U9 ha (by simpa using hb)) (aB _ (by simpa using hc)) ⟨rfl,rfl⟩ trivial;refine ⟨.nd q .e,by simp[Pt.put,e,hb,hc,h1],by simp only[Dl,e,if_false,hb,hc,if_true,Bool.false_eq_true];exact ⟨h2,trivial⟩,fun x _=>?_⟩;simp only[Pt.knows];split
      ·trivial
      ·exact h3 x trivial
  | nd l r=>cases t with
   | e=>exact hv.elim
   | lf _ _=>exact hv.elim
   | nd l' r'=>
    by_cases hb:E3 k d=true
    ·simp only[Pt.knows,hb,if_true]at aA;obtain⟨q,h1,h2,h3⟩:=ih (d+1) r r' (Jc P d true) (by omega) (U9 ha hb) ok.2.2.2 hv.2 aA;refine ⟨.nd l q,by simp[Pt.put,hb,h1],by simp only[Dl,hb,if_true];exact ⟨hv.1,h2⟩,fun x hx=>?_⟩;simp only[Pt.knows]at hx ⊢;split at hx
     ·rename_i hc;simp only[hc,if_true];exact h3 x hx
     ·rename_i hc;simp only[hc,if_false,Bool.false_eq_true];exact hx
    ·simp only[Pt.knows,hb,if_false,Bool.false_eq_true]at aA;obtain⟨q,h1,h2,h3⟩:=ih (d+1) l l' (Jc P d false) (by omega) (U9 ha (by simpa using hb)) ok.2.2.1 hv.1 aA;refine ⟨.nd q r,by simp[Pt.put,hb,h1],by simp only[Dl,hb,if_false,Bool.false_eq_true];exact ⟨h2,hv.2⟩,fun x hx=>?_⟩;simp only[Pt.knows]at hx ⊢;split at hx
     ·rename_i hc;simp only[hc,if_true];exact hx
     ·rename_i hc;simp only[hc,if_false,Bool.false_eq_true];exact h3 x hx
def Pt.isE:Pt→Bool | .e=>true | _=>false
def Pt.isLf:Pt→Bool | .lf _ _=>true | _=>false
def ill (l r:Pt):Bool:=l.isE&&(r.isE||r.isLf)||r.isE&&l.isLf
def Pt.Tight:Pt→Prop
 | .nd l r=>ill l r=false∧l.Tight∧r.Tight
 | _=>True
theorem Jd.tight:∀ {p:Pt} {t:Tr} {d:Nat} {P:Nat→Bool},Jd p t→Ok d P t→p.Tight
 | .e,.e,_,_,_,_=>trivial
 | .lf _ _,.lf _ _,_,_,h,ok=>trivial
 | .nd l r,.nd l' r',_,_,h,ok=>by
  refine ⟨?_,Jd.tight h.1 ok.2.2.1,Jd.tight h.2 ok.2.2.2⟩;have hlen:=ok.2.1;have h1:=h.1;have h2:=h.2;clear h ok;cases l<;>cases r<;>cases l'<;>cases r'<;>first | rfl | exact h1.elim | exact h2.elim | (simp[Tr.len]at hlen)
 | .hd h,t,_,_,e,_=>trivial
 | .e,.lf _ _,_,_,h,_=>h.elim
 | .e,.nd _ _,_,_,h,_=>h.elim
 | .lf _ _,.e,_,_,h,_=>h.elim
 | .lf _ _,.nd _ _,_,_,h,_=>h.elim
 | .nd _ _,.e,_,_,h,_=>h.elim
 | .nd _ _,.lf _ _,_,_,h,_=>h.elim
theorem Pt.Ok.put {k v:List UInt8} (hk:k.length=32) (hv:v.length=32):∀(f d:Nat) (p q:Pt) (P:Nat→Bool),f+d=256→(∀i,i<d→E3 k i=P i)→p.Ok d P→p.put k v f d=some q→q.Ok d P∧q.bytes.length≤p.bytes.length+65+2*(f+1):=by
 intro f;induction f with
 | zero=>
  intro d p q P aC ha ok hq;cases p with
  | e=>simp only[Pt.put,Option.some.injEq]at hq;subst hq;exact ⟨⟨hk,hv,ha⟩,by simp[Pt.bytes,hk,hv]⟩
  | hd h=>cases hq
  | nd l r=>cases hq
  | lf a b=>
   simp only[Pt.put]at hq;split at hq
   ·simp only[Option.some.injEq]at hq;subst hq;exact ⟨⟨hk,hv,ha⟩,by simp[Pt.bytes,hk,hv]⟩
   ·cases hq
 | succ f ih=>
  intro d p q P aC ha ok hq;cases p with
  | e=>simp only[Pt.put,Option.some.injEq]at hq;subst hq;exact ⟨⟨hk,hv,ha⟩,by simp[Pt.bytes,hk,hv];omega⟩
  | hd h=>cases hq
  | nd l r=>
   simp only[Pt.put]at hq;split at hq
   ·rename_i hb
    obtain⟨x,hx,rfl⟩:=Option.map_eq_some_iff.1 hq;obtain⟨h1,h2⟩:=ih (d+1) r x (Jc P d true) (by omega) (U9 ha hb) ok.2.2 hx;exact ⟨⟨ok.1,ok.2.1,h1⟩,by simp only[Pt.bytes,List.length_append];omega⟩
   ·rename_i hb
    obtain⟨x,hx,rfl⟩:=Option.map_eq_some_iff.1 hq;obtain⟨h1,h2⟩:=ih (d+1) l x (Jc P d false) (by omega) (U9 ha (by simpa using hb)) ok.2.1 hx;exact ⟨⟨ok.1,h1,ok.2.2⟩,by simp only[Pt.bytes,List.length_append];omega⟩
  | lf a b=>
   simp only[Pt.put]at hq;split at hq
   ·simp only[Option.some.injEq]at hq;subst hq;exact ⟨⟨hk,hv,ha⟩,by simp[Pt.bytes,hk,hv];omega⟩
   ·have aB:∀c,E3 a d=c→Pt.Ok (d+1) (Jc P d c) (.lf a b):=fun c hc=>⟨ok.1,ok.2.1,fun i hi=>U9 ok.2.2 hc i hi⟩;have aA:a.length=32∧b.length=32:=⟨ok.1,ok.2.1⟩;by_cases hb:E3 k d=true<;>by_cases hc:E3 a d=true<;>simp only[hb,hc,if_true,if_false,Bool.false_eq_true]at hq<;>obtain⟨x,hx,rfl⟩:=Option.map_eq_some_iff.1 hq
    ·obtain⟨h1,h2⟩:=ih (d+1) _ x (Jc P d true) (by omega) (U9 ha hb) (aB _ hc) hx;exact ⟨⟨by omega,trivial,h1⟩,by simp only[Pt.bytes,List.length_append,List.length_cons,List.length_nil,aA.1,aA.2]at h2 ⊢;omega⟩
    ·obtain⟨h1,h2⟩:=ih (d+1) .e x (Jc P d true) (by omega) (U9 ha hb) trivial hx;exact ⟨⟨by omega,aB _ (by simpa using hc),h1⟩,by simp only[Pt.bytes,List.length_append,List.length_cons,List.length_nil,aA.1,aA.2]at h2 ⊢;omega⟩
    ·obtain⟨h1,h2⟩:=ih (d+1) .e x (Jc P d false) (by omega) (U9 ha (by simpa using hb)) trivial hx;exact ⟨⟨by omega,h1,aB _ hc⟩,by simp only[Pt.bytes,List.length_append,List.length_cons,List.length_nil,aA.1,aA.2]at h2 ⊢;omega⟩
    ·obtain⟨h1,h2⟩:=ih (d+1) _ x (Jc P d false) (by omega) (U9 ha (by simpa using hb)) (aB _ (by simpa using hc)) hx;exact ⟨⟨by omega,h1,trivial⟩,by simp only[Pt.bytes,List.length_append,List.length_cons,List.length_nil,aA.1,aA.2]at h2 ⊢;omega⟩
def chk (way:List Bool) (key:List UInt8):Bool:=(List.range way.length).all fun i=>E3 key i==way.getD i false
def rd1 (rec:List Bool→List UInt8→Except Nat (Pt×List UInt8)) (way:List Bool):List UInt8→Except Nat (Pt×List UInt8)
 | []=>.error 10
 | k::b=>
  if k=0 then .ok (.e,b)
  else if k=1 then if b.length<64 then .error 10 else if chk way (b.take 32) then .ok (.lf (b.take 32) ((b.drop 32).take 32),b.drop 64) else .error 13
  else if k=2 then match rec (way++[false]) b with
   | .error e=>.error e
   | .ok (l,b1)=>match rec (way++[true]) b1 with
    | .error e=>.error e
    | .ok (r,b2)=>if ill l r then .error 13 else .ok (.nd l r,b2)
  else if k=3 then if b.length<32 then .error 10 else .ok (.hd (b.take 32),b.drop 32)
  else .error 13
def rd:Nat→List Bool→List UInt8→Except Nat (Pt×List UInt8)
 | 0=>rd1 fun _ _=>.error 13
 | f+1=>rd1 (rd f)
def Eg (way:List Bool):Nat→Bool:=fun i=>way.getD i false
theorem A0n {way:List Bool} {key:List UInt8}:chk way key=true↔∀i,i<way.length→E3 key i=Eg way i:=by simp[chk,Eg]
theorem A6j {d:Nat} {P Q:Nat→Bool} (b:Bool) (h:∀i,i<d→P i=Q i):∀i,i<d+1→Jc P d b i=Jc Q d b i:=fun i hi=>by
 unfold Jc;split
 ·rfl
 ·exact h i (by omega)
theorem Pt.Ok.congr:∀ {p:Pt} {d:Nat} {P Q:Nat→Bool},p.Ok d P→(∀i,i<d→P i=Q i)→p.Ok d Q
 | .e,_,_,_,_,_=>trivial
 | .lf _ _,_,_,_,h,he=>⟨h.1,h.2.1,fun i hi=>(h.2.2 i hi).trans (he i hi)⟩
 | .nd _ _,d,P,Q,h,he=>⟨h.1,h.2.1.congr (A6j false he),h.2.2.congr (A6j true he)⟩
 | .hd _,_,_,_,h,_=>h
theorem Rj (way:List Bool) (b:Bool) (i:Nat) (hi:i<way.length+1):Eg (way++[b]) i=Jc (Eg way) way.length b i:=by
 unfold Eg Jc;split
 ·rename_i e;subst e;simp[List.getD_eq_getElem?_getD]
 ·rename_i e
  have:i<way.length:=by omega
  simp[List.getD_eq_getElem?_getD,List.getElem?_append_left this]
theorem B5n:∀(f:Nat) (way:List Bool) (b:List UInt8) (p:Pt) (rest:List UInt8),f+way.length=256→rd f way b=.ok (p,rest)→b=p.bytes++rest∧p.Ok way.length (Eg way)∧p.Tight:=by
 intro f;induction f with
 | zero=>
  intro way b p rest hf h;cases b with
  | nil=>cases h
  | cons k b=>
   simp only[rd,rd1]at h;split at h
   ·injection h with h;injection h with h1 h2;subst h1 h2;rename_i e;subst e;exact ⟨rfl,trivial,trivial⟩
   split at h
   ·split at h
    ·cases h
    split at h
    ·rename_i hl hc
     injection h with h;injection h with h1 h2;subst h1 h2;rename_i e0 e;subst e;refine ⟨?_,⟨by simp;omega,by simp;omega,A0n.1 hc⟩,trivial⟩;have e1:b.drop 64=(b.drop 32).drop 32:=by rw[List.drop_drop]
     simp only[Pt.bytes,List.cons_append,List.nil_append,List.append_assoc];rw[e1,List.take_append_drop,List.take_append_drop]
    ·cases h
   split at h
   ·cases h
   split at h
   ·split at h
    ·cases h
    ·rename_i hl
     injection h with h;injection h with h1 h2;subst h1 h2;rename_i e;subst e;refine ⟨?_,(by simp[Pt.Ok];omega),trivial⟩;simp only[Pt.bytes,List.cons_append,List.nil_append];rw[List.take_append_drop]
   ·cases h
 | succ f ih=>
  intro way b p rest hf h;cases b with
  | nil=>cases h
  | cons k b=>
   simp only[rd,rd1]at h;split at h
   ·injection h with h;injection h with h1 h2;subst h1 h2;rename_i e;subst e;exact ⟨rfl,trivial,trivial⟩
   split at h
   ·split at h
    ·cases h
    split at h
    ·rename_i hl hc
     injection h with h;injection h with h1 h2;subst h1 h2;rename_i e0 e;subst e;refine ⟨?_,⟨by simp;omega,by simp;omega,A0n.1 hc⟩,trivial⟩;have e1:b.drop 64=(b.drop 32).drop 32:=by rw[List.drop_drop]
     simp only[Pt.bytes,List.cons_append,List.nil_append,List.append_assoc];rw[e1,List.take_append_drop,List.take_append_drop]
    ·cases h
   split at h
   ·rename_i e;subst e
    split at h
    ·cases h
    ·rename_i l b1 h1
     split at h
     ·cases h
     ·rename_i r b2 h2
      split at h
      ·cases h
      ·rename_i hi
       injection h with h;injection h with h3 h4;subst h3 h4;obtain⟨e1,o1,t1⟩:=ih _ _ _ _ (by simp;omega) h1;obtain⟨e2,o2,t2⟩:=ih _ _ _ _ (by simp;omega) h2;simp only[List.length_append,List.length_cons,List.length_nil,Nat.zero_add]at o1 o2;refine ⟨by rw[e1,e2];simp[Pt.bytes],⟨by omega,o1.congr fun i hi=>Rj _ _ i hi,o2.congr fun i hi=>Rj _ _ i hi⟩,by simpa using hi,t1,t2⟩
   split at h
   ·split at h
    ·cases h
    ·rename_i hl
     injection h with h;injection h with h1 h2;subst h1 h2;rename_i e;subst e;refine ⟨?_,(by simp[Pt.Ok];omega),trivial⟩;simp only[Pt.bytes,List.cons_append,List.nil_append];rw[List.take_append_drop]
   ·cases h
theorem B5s {rec:List Bool→List UInt8→Except Nat (Pt×List UInt8)} {way:List Bool} {k v rest:List UInt8} (hk:k.length=32) (hv:v.length=32) (h:chk way k=true):rd1 rec way ((Pt.lf k v).bytes++rest)=.ok (.lf k v,rest):=by
 have e0:(Pt.lf k v).bytes++rest=1::(k++(v++rest)):=by simp[Pt.bytes]
 rw[e0];have e1:(k++(v++rest)).take 32=k:=by rw[←hk,List.take_left]
 have e2:(k++(v++rest)).drop 32=v++rest:=by rw[←hk,List.drop_left]
 have e3:(v++rest).take 32=v:=by rw[←hv,List.take_left]
 have e4:(k++(v++rest)).drop 64=rest:=by rw[show (64:Nat)=32+32 from rfl,←List.drop_drop,e2,←hv,List.drop_left]
 have e5:¬ (k++(v++rest)).length<64:=by simp[hk,hv];omega
 simp only[rd1,e1,e2,e3,e4,e5,h,if_false,if_true];rfl
theorem A1r {rec:List Bool→List UInt8→Except Nat (Pt×List UInt8)} {way:List Bool} {h rest:List UInt8} (hh:h.length=32):rd1 rec way ((Pt.hd h).bytes++rest)=.ok (.hd h,rest):=by
 have e0:(Pt.hd h).bytes++rest=3::(h++rest):=by simp[Pt.bytes]
 rw[e0];have e1:(h++rest).take 32=h:=by rw[←hh,List.take_left]
 have e2:(h++rest).drop 32=rest:=by rw[←hh,List.drop_left]
 have e5:¬ (h++rest).length<32:=by simp[hh]
 simp only[rd1,e1,e2,e5,if_false,if_true];rfl
theorem B4b:∀(f:Nat) (way:List Bool) (p:Pt) (rest:List UInt8),f+way.length=256→p.Ok way.length (Eg way)→p.Tight→rd f way (p.bytes++rest)=.ok (p,rest):=by
 intro f;induction f with
 | zero=>
  intro way p rest hf ok ht;cases p with
  | e=>rfl
  | lf k v=>exact B5s ok.1 ok.2.1 (A0n.2 ok.2.2)
  | hd h=>exact A1r ok
  | nd l r=>exact absurd ok.1 (by omega)
 | succ f ih=>
  intro way p rest hf ok ht;cases p with
  | e=>rfl
  | lf k v=>exact B5s ok.1 ok.2.1 (A0n.2 ok.2.2)
  | hd h=>exact A1r ok
  | nd l r=>
   have h1:=ih (way++[false]) l (r.bytes++rest) (by simp;omega) (by simp only[List.length_append,List.length_cons,List.length_nil,Nat.zero_add];exact ok.2.1.congr fun i hi=>(Rj _ _ i hi).symm) ht.2.1;have h2:=ih (way++[true]) r rest (by simp;omega) (by simp only[List.length_append,List.length_cons,List.length_nil,Nat.zero_add];exact ok.2.2.congr fun i hi=>(Rj _ _ i hi).symm) ht.2.2;have e0:(Pt.nd l r).bytes++rest=2::(l.bytes++(r.bytes++rest)):=by simp[Pt.bytes]
   rw[e0];simp only[rd,rd1,h1,h2,ht.1];rfl
theorem D2u {f:Nat} {way:List Bool} {b:List UInt8} {e:Nat}:rd f way b=.error e→e=10∨e=13:=by
 induction f generalizing way b e with
 | zero=>
  intro h;cases b with
  | nil=>injection h with h;exact .inl h.symm
  | cons k b=>
   simp only[rd,rd1]at h;repeat' (split at h)
   all_goals first | cases h;done | (injection h with h;subst h;first | exact .inl rfl | exact .inr rfl)
 | succ f ih=>
  intro h;cases b with
  | nil=>injection h with h;exact .inl h.symm
  | cons k b=>
   simp only[rd,rd1]at h;split at h
   ·cases h
   split at h
   ·split at h
    ·injection h with h;exact .inl h.symm
    ·split at h
     ·cases h
     ·injection h with h;exact .inr h.symm
   split at h
   ·split at h
    ·rename_i h1;injection h with h;subst h;exact ih h1
    ·split at h
     ·rename_i h1;injection h with h;subst h;exact ih h1
     ·split at h
      ·injection h with h;exact .inr h.symm
      ·cases h
   split at h
   ·split at h
    ·injection h with h;exact .inl h.symm
    ·cases h
   ·injection h with h;exact .inr h.symm
end Go.Proofs.YtmllnpokbbabhaaGreat
